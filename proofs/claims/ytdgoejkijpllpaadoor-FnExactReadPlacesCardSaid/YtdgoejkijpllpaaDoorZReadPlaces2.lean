/- FnExactReadPlaces: for all texts the program's ReadPlaces answers what the reference's answers, in memory of its own. The card ties variables of Go's library (tables, two sentinel errors) to their texts. -/
import Derived.Shelf.Strconv.Itoa3
import Derived.Test.YtdgoejkijpllpaaDoorProg
import Derived.Test.YtdgoejkijpllpaaDoorRows
import Derived.Lib.Split
import Derived.Lib.SplitLaws
import Derived.Lib.AtoiAllCases
import Derived.Lib.Strings
import Derived.Lib.IndexMore
import Derived.Lib.ConvBytes
import Derived.WideLaws
import Derived.SizedLaws
import Derived.Shelf.Strings.Split
import Derived.Shelf.Strings.Cut
import Derived.Shelf.Strings.Prefix
import Derived.Shelf.Strconv.ErrVarAll
import Derived.Shelf.Vars
import Derived.Stop.LaidErr
import Derived.Test.YtdgoejkijpllpaaDoorCards
import Derived.Test.YtdgoejkijpllpaaDoorTie
import Derived.Lay
import Derived.SevenTiedAt
import Derived.Test.YtdgoejkijpllpaaDoorZReadPlaces1

namespace Go.Proofs
open Go.Shelf
set_option linter.unusedVariables false
def Tryd.itoa_ren : Go.Shelf.Ren := ⟨fun | 171 => 62 | 243 => 81 | 246 => 96 | 283 => 109 | 284 => 110 | 285 => 111 | 286 => 112 | 129 => 120 | 317 => 119 | 318 => 121 | 319 => 122 | 320 => 123 | 337 => 126 | 338 => 127 | n => n, fun | 3 => 3 | 9 => 9 | 2 => 2 | 4 => 4 | 171 => 112 | 0 => 0 | 53 => 70 | 37 => 44 | 5 => 5 | 173 => 115 | 212 => 127 | 51 => 123 | 20 => 20 | 213 => 128 | 46 => 111 | 232 => 140 | 233 => 141 | n => n, fun | 17 => 3 | 18 => 6 | 19 => 7 | n => n⟩
theorem Tryd.itoa : Go.Proofs.LaysM.n171 Tryd.prog Tryd.itoa_ren := {
  mixed := by kernel_rfl
  f129 := Tryd.func120.trans (congrArg some (by kernel_rfl))
  f171 := Tryd.func62.trans (congrArg some (by kernel_rfl))
  f243 := Tryd.func81.trans (congrArg some (by kernel_rfl))
  f246 := Tryd.func96.trans (congrArg some (by kernel_rfl))
  f283 := Tryd.func109.trans (congrArg some (by kernel_rfl))
  f284 := Tryd.func110.trans (congrArg some (by kernel_rfl))
  f285 := Tryd.func111.trans (congrArg some (by kernel_rfl))
  f286 := Tryd.func112.trans (congrArg some (by kernel_rfl))
  f317 := Tryd.func119.trans (congrArg some (by kernel_rfl))
  f318 := Tryd.func121.trans (congrArg some (by kernel_rfl))
  f319 := Tryd.func122.trans (congrArg some (by kernel_rfl))
  f320 := Tryd.func123.trans (congrArg some (by kernel_rfl))
  f337 := Tryd.func126.trans (congrArg some (by kernel_rfl))
  f338 := Tryd.func127.trans (congrArg some (by kernel_rfl))
  t0 := Tryd.underlying0
  a0 := Tryd.isAgg0
  z0 := Tryd.sizeOf0
  v0 := Tryd.zeroValue0
  t2 := Tryd.underlying2
  a2 := Tryd.isAgg2
  z2 := Tryd.sizeOf2
  v2 := Tryd.zeroValue2
  t3 := Tryd.underlying3
  a3 := Tryd.isAgg3
  z3 := Tryd.sizeOf3
  v3 := Tryd.zeroValue3
  t4 := Tryd.underlying4
  a4 := Tryd.isAgg4
  z4 := Tryd.sizeOf4
  v4 := Tryd.zeroValue4
  t5 := Tryd.underlying5
  a5 := Tryd.isAgg5
  z5 := Tryd.sizeOf5
  v5 := Tryd.zeroValue5
  t9 := Tryd.underlying9
  a9 := Tryd.isAgg9
  z9 := Tryd.sizeOf9
  v9 := Tryd.zeroValue9
  t20 := Tryd.underlying20
  a20 := Tryd.isAgg20
  z20 := Tryd.sizeOf20
  v20 := Tryd.zeroValue20
  t37 := Tryd.underlying44
  a37 := Tryd.isAgg44
  z37 := Tryd.sizeOf44
  v37 := Tryd.zeroValue44
  t46 := Tryd.underlying111
  a46 := Tryd.isAgg111
  z46 := Tryd.sizeOf111
  v46 := Tryd.zeroValue111
  t51 := Tryd.underlying123
  a51 := Tryd.isAgg123
  z51 := Tryd.sizeOf123
  v51 := Tryd.zeroValue123
  t53 := Tryd.underlying70
  a53 := Tryd.isAgg70
  z53 := Tryd.sizeOf70
  v53 := Tryd.zeroValue70
  t171 := Tryd.underlying112
  a171 := Tryd.isAgg112
  z171 := Tryd.sizeOf112
  v171 := Tryd.zeroValue112
  t173 := Tryd.underlying115
  a173 := Tryd.isAgg115
  z173 := Tryd.sizeOf115
  v173 := Tryd.zeroValue115
  t212 := Tryd.underlying127
  a212 := Tryd.isAgg127
  z212 := Tryd.sizeOf127
  v212 := Tryd.zeroValue127
  t213 := Tryd.underlying128
  a213 := Tryd.isAgg128
  z213 := Tryd.sizeOf128
  t232 := Tryd.underlying140
  a232 := Tryd.isAgg140
  z232 := Tryd.sizeOf140
  v232 := Tryd.zeroValue140
  t233 := Tryd.underlying141
  a233 := Tryd.isAgg141
  z233 := Tryd.sizeOf141
  v233 := Tryd.zeroValue141
  g17 := by kernel_rfl
  g18 := by kernel_rfl
  g19 := by kernel_rfl
  i0 := by kernel_rfl
  i2 := by kernel_rfl
  i3 := by kernel_rfl
  i4 := by kernel_rfl
  i5 := by kernel_rfl
  i9 := by kernel_rfl
  i20 := by kernel_rfl
  i37 := by kernel_rfl
  i46 := by kernel_rfl
  i51 := by kernel_rfl
  i53 := by kernel_rfl
  i171 := by kernel_rfl
  i173 := by kernel_rfl
  i212 := by kernel_rfl
  i232 := by kernel_rfl
  i233 := by kernel_rfl
  m17 := by kernel_rfl
  m18 := by kernel_rfl
  m19 := by kernel_rfl }
end Go.Proofs

set_option linter.unusedVariables false
set_option linter.unusedSimpArgs false
set_option maxRecDepth 100000
namespace Go.Proofs.YtdgoejkijpllpaaDoor
open Go Go.AV Go.M
attribute [local irreducible] OpW OpA OpS AWP FSpec ESpec GSpec OpE RetOk RetOkG RvDen Le Ev GuardIs SrcIs Int.tmod Int.tdiv IntKind.wrap
def tabW (w : World) : Prop := Lib.TabIs Tryd.prog w "internal/strconv.uint64pow10" .u64 Lib.pow10Tab
theorem tabW_heap {W w' : World} (h : tabW W) (hw : RLe (heapR W) w') : tabW w' := tabIs_heap h hw
theorem tabW_head {W : World} {rest : List (String × DataW Unit)} (h : laidMet Tryd.prog (("internal/strconv.uint64pow10", Lib.tabData .u64 Lib.pow10Tab) :: rest) W) : tabW W :=
  Lib.tabIs_of_head (g := 3) (t := 127) (by kernel_rfl) (by kernel_rfl) Tryd.underlying127 Tryd.underlying70 (by kernel_rfl) (by kernel_rfl) h
theorem itoa_spec (n : Int) (h : -9223372036854775808 ≤ n ∧ n ≤ 9223372036854775807) : FSpec Tryd.prog 62 [AV.wt tabW (AV.int n)] (AV.str (itoaD n)) :=
  fspec_wt fun R w v hr hv hT => by
    rw [show v = Value.int .i64 n from hv]
    refine (Any.strconv_Itoa Tryd.itoa n h.1 h.2 w hT).mono ?_
    rintro e w' ⟨rfl, k, os, rfl⟩
    exact ⟨_, rfl, rfl, below_grown w k os⟩
theorem l1Num_spec (n : Nat) : n ≤ 1000000000000 → FSpec Tryd.prog 57 [AV.int n] (AV.str (decD n)) := by
  induction n using Nat.strongRecOn with
  | ind n ih =>
    intro hn
    refine spec_of_awp Tryd.func57 rfl Tryd.ntmps57 rfl ?_
    refine awp_seq ?_
    refine awp_region ?_
    refine sq_plain rfl rfl rfl (w_assign rfl (ev_cs' (l := []) rfl)) ?_
    refine sq_nil ?_
    refine awp_seq ?_
    refine awp_seq ?_
    refine awp_region ?_
    refine sq_plain rfl rfl rfl (w_move rfl (ev_tmp rfl)) ?_
    refine sq_plain rfl rfl rfl (w_lss rfl (ev_tmp rfl) ev_ci) ?_
    refine sq_nil ?_
    refine awp_cond (ev_tmp rfl) ?_ ?_
    · intro h4
      have k4 := of_decide_eq_true h4; try simp only [List.length_map] at k4
      have hn10 : n < 10 := by omega
      refine awp_seq ?_
      refine awp_region ?_
      refine sq_plain rfl rfl rfl (w_move rfl (ev_tmp rfl)) ?_
      refine sq_plain rfl rfl rfl (w_addi rfl ev_ci (ev_tmp rfl) (by first | omega | ((try simp only [List.length_map, List.length_take, List.length_cons, List.length_nil, chunks_len, szR] at *); omega) | (have hc2 := hc; simp only [Bool.and_eq_true, Bool.or_eq_true, Bool.or_eq_false_iff, Bool.and_eq_false_iff, Bool.not_eq_true', Bool.not_eq_false', decide_eq_true_eq, decide_eq_false_iff_not, beq_iff_eq, bne_iff_ne, List.length_map, List.length_take] at hc2; omega))) ?_
      refine sq_plain rfl rfl rfl (w_conv rfl (by kernel_rfl) Tryd.underlying5 (ev_tmp rfl)) ?_
      rw [dig1]
      refine sq_plain rfl rfl rfl (w_bslice rfl Tryd.underlying44 Tryd.sizeOf5 Tryd.zeroValue5 rfl rfl rfl rfl (bp_cons (ev_tmp rfl) (as_ik _ _) bp_nil) rfl rfl) ?_
      refine sq_plain rfl rfl rfl (w_convB (bs := [UInt8.ofNat (48 + n)]) rfl Tryd.underlying44 Tryd.underlying5 Tryd.underlying9 (ev_tmp rfl)) ?_
      refine sq_plain rfl rfl rfl (w_assign rfl (ev_tmp rfl)) ?_
      refine sq_nil ?_
      refine awp_ret ?_
      exact retR rfl (rv_tmp' rfl (by first | exact congrArg AV.str (decD_small hn10).symm | exact congrArg AV.str (decD_big hn10).symm))
    · intro h4
      have k4 := of_decide_eq_false h4; try simp only [List.length_map] at k4
      have hn10 : ¬ n < 10 := by omega
      have hdl := decD_len (k := 12) (n := n / 10) (by omega) (by decide)
      refine awp_skip ?_
      refine awp_seq ?_
      refine awp_region_any (by kernel_rfl) (by kernel_rfl) rfl ?_
      refine ch_plain rfl rfl (w_move rfl (ev_tmp rfl)) ?_
      refine ch_plain rfl rfl (w_quo rfl (ev_tmp rfl) ev_ci (by decide)) ?_
      rw [quo10 hn]
      refine ch_plain rfl rfl (w_call rfl Tryd.call57 rfl (ih (n / 10) (by omega) (by omega)) (evl_cons (ev_tmp rfl) evl_nil)) ?_
      refine ch_plain rfl rfl (w_move rfl (ev_tmp rfl)) ?_
      refine ch_plain rfl rfl (w_rem rfl (ev_tmp rfl) ev_ci (by decide)) ?_
      refine ch_plain rfl rfl (w_addi rfl ev_ci (ev_tmp rfl) (by rw [tmod10]; omega)) ?_
      refine ch_plain rfl rfl (w_conv rfl (by kernel_rfl) Tryd.underlying5 (ev_tmp rfl)) ?_
      rw [dig2]
      refine ch_plain rfl rfl (w_bslice rfl Tryd.underlying44 Tryd.sizeOf5 Tryd.zeroValue5 rfl rfl rfl rfl (bp_cons (ev_tmp rfl) (as_ik _ _) bp_nil) rfl rfl) ?_
      refine ch_plain rfl rfl (w_convB (bs := [UInt8.ofNat (48 + n % 10)]) rfl Tryd.underlying44 Tryd.underlying5 Tryd.underlying9 (ev_tmp rfl)) ?_
      refine ch_plain rfl rfl (w_cat rfl (ev_tmp rfl) (ev_tmp rfl) (by first | omega | (simp only [List.length_append, List.length_take, List.length_drop, List.length_cons, List.length_nil]; omega))) ?_
      refine ch_plain rfl rfl (w_assign rfl (ev_tmp rfl)) ?_
      refine ch_nil ?_
      refine awp_ret ?_
      exact retR rfl (rv_tmp' rfl (by first | exact congrArg AV.str (decD_small hn10).symm | exact congrArg AV.str (decD_big hn10).symm))
end Go.Proofs.YtdgoejkijpllpaaDoor

set_option linter.unusedVariables false
set_option linter.unusedSimpArgs false
namespace Go.M
open Go.AV
def plB (p : TPlaces) : Nat → Str
  | 0 => decD p.Ver.toNat ++ [32]
  | i + 1 => (if 0 < i then plB p i ++ (([124] ++ (p.Cuts[i - 1]?).getD []) ++ [124]) else plB p i) ++ decD ((p.Groups[i]?).getD 0).toNat
theorem plB_next {p : TPlaces} {i g : Nat} {c : Str} (hg : p.Groups[i]? = some (g : Int)) (h : 0 < i) (hc : p.Cuts[i - 1]? = some c) : (plB p i ++ (([124] ++ c) ++ [124])) ++ decD g = plB p (i + 1) := by
  show _ = (if 0 < i then plB p i ++ (([124] ++ (p.Cuts[i - 1]?).getD []) ++ [124]) else plB p i) ++ decD ((p.Groups[i]?).getD 0).toNat
  rw [if_pos h, hc, hg]; rfl
theorem plB_first {p : TPlaces} {i g : Nat} (hg : p.Groups[i]? = some (g : Int)) (h : ¬ 0 < i) : plB p i ++ decD g = plB p (i + 1) := by
  show _ = (if 0 < i then plB p i ++ (([124] ++ (p.Cuts[i - 1]?).getD []) ++ [124]) else plB p i) ++ decD ((p.Groups[i]?).getD 0).toNat
  rw [if_neg h, hg]; rfl
theorem pg_groups {p : TPlaces} (h : goodPlaces p = true) : ∀ g ∈ p.Groups, 0 ≤ g ∧ g ≤ 3 := by
  unfold goodPlaces at h
  simp only [Bool.and_eq_true, Bool.not_eq_true'] at h
  intro g hg
  have h2 := List.any_eq_false.1 h.2 g hg
  unfold isGroup within at h2
  simp at h2
  omega
theorem plB_len {p : TPlaces} (h : goodPlaces p = true) (hc : ∀ c ∈ p.Cuts, c.length ≤ 4194304) : ∀ i, (plB p i).length ≤ 10 + i * 4194324
  | 0 => by
    have hf := good_facts h
    have := decD_len (k := 7) (n := p.Ver.toNat) (by omega) (by decide)
    show (decD p.Ver.toNat ++ [32]).length ≤ _
    rw [List.length_append]; simp only [List.length_cons, List.length_nil]; omega
  | i + 1 => by
    have ih := plB_len h hc i
    have h1 : ((p.Cuts[i - 1]?).getD []).length ≤ 4194304 := by
      cases hx : p.Cuts[i - 1]? with
      | none => simp
      | some c => exact hc c (List.mem_of_getElem? hx)
    have h2 : (decD ((p.Groups[i]?).getD 0).toNat).length ≤ 7 := by
      cases hx : p.Groups[i]? with
      | none => exact decD_len (by decide) (by decide)
      | some g =>
        have := pg_groups h g (List.mem_of_getElem? hx)
        exact decD_len (show g.toNat < _ by omega) (by decide)
    show ((if 0 < i then plB p i ++ (([124] ++ (p.Cuts[i - 1]?).getD []) ++ [124]) else plB p i) ++ decD ((p.Groups[i]?).getD 0).toNat).length ≤ _
    rw [List.length_append]
    split
    · rw [List.length_append, List.length_append, List.length_append]; simp only [List.length_cons, List.length_nil]; omega
    · omega
def placesB (p : TPlaces) : Str := plB p p.Groups.length
end Go.M

set_option linter.unusedVariables false
set_option linter.unusedSimpArgs false
set_option maxRecDepth 100000
namespace Go.Proofs.YtdgoejkijpllpaaDoor
open Go Go.AV Go.M
attribute [local irreducible] OpW OpA OpS AWP FSpec ESpec RetOk RvDen Le Ev GuardIs
end Go.Proofs.YtdgoejkijpllpaaDoor

set_option linter.unusedVariables false
set_option linter.unusedSimpArgs false
set_option maxRecDepth 100000
namespace Go.Proofs.YtdgoejkijpllpaaDoor
open Go Go.AV Go.M
attribute [local irreducible] OpW OpA OpS AWP FSpec ESpec RetOk RvDen Le Ev GuardIs
theorem areRising_spec (l : List Str) (hs : ∀ k ∈ l, k.length ≤ 4611686018427387904) : FSpec Tryd.prog 66 [strs l] (AV.bool (areRising l)) := by
  refine spec_of_awp Tryd.func66 rfl Tryd.ntmps66 rfl ?_
  refine awp_len (t := 0) rfl fun hl => ?_
  try simp only [List.length_map] at hl
  refine awp_seq ?_
  refine awp_region ?_
  refine sq_plain rfl rfl rfl (w_assign rfl ev_cb) ?_
  refine sq_nil ?_
  refine awp_seq ?_
  refine awp_seq ?_
  refine awp_region ?_
  refine sq_plain rfl rfl rfl (w_move rfl (ev_tmp rfl)) ?_
  refine sq_plain rfl rfl rfl (w_llen rfl Tryd.underlying30 (ev_tmp rfl)) ?_
  refine sq_plain rfl rfl rfl (w_move rfl ev_ci) ?_
  refine sq_nil ?_
  refine awp_block ?_
  refine awp_loop_i [(0, _), (5, _), (6, _)] _ (fun (i : Nat) => i ≤ l.length ∧ areRising l = ((l.drop i).all goodKey && adj Op.bytesLess (l.drop (i - 1)))) (fun (i : Nat) => []) (fun (i : Nat) => [(7, AV.int i)]) (fun (i : Nat) => l.length - i) (0) ?_ (le_env ⟨rfl, rfl, rfl, rfl, trivial⟩) ?_
  · exact ⟨Nat.zero_le _, rfl⟩
  intro i hinv
  refine awp_seq ?_
  refine awp_region ?_
  refine sq_plain rfl rfl rfl (w_lss rfl (ev_tmp rfl) (ev_tmp rfl)) ?_
  refine sq_nil ?_
  refine awp_seq ?_
  refine awp_cond (ev_tmp rfl) ?_ ?_
  · intro h8
    have k8 := of_decide_eq_true h8; try simp only [List.length_map] at k8
    have hlt : i < l.length := by omega
    obtain ⟨x, hx⟩ := get_some hlt
    obtain ⟨y, hy⟩ := get_some (show i - 1 < l.length by omega)
    have hsx := hs x (List.mem_of_getElem? hx)
    refine awp_skip ?_
    refine awp_seq ?_
    refine awp_block ?_
    refine awp_seq ?_
    refine awp_region ?_
    refine sq_plain rfl rfl rfl (w_move rfl (ev_tmp rfl)) ?_
    refine sq_plain rfl rfl rfl (w_idxm rfl Tryd.underlying30 Tryd.sizeOf9 (ev_tmp rfl) (ev_tmp rfl) hx (by first | omega | ((try simp only [List.length_map, List.length_take, List.length_cons, List.length_nil, chunks_len, szR] at *); omega) | (have hc2 := hc; simp only [Bool.and_eq_true, Bool.or_eq_true, Bool.or_eq_false_iff, Bool.and_eq_false_iff, Bool.not_eq_true', Bool.not_eq_false', decide_eq_true_eq, decide_eq_false_iff_not, beq_iff_eq, bne_iff_ne, List.length_map, List.length_take] at hc2; omega))) ?_
    refine sq_plain rfl rfl rfl (w_loadE1 rfl (ev_tmp rfl) Tryd.isAgg9 rfl) ?_
    refine sq_plain rfl rfl rfl (w_assign rfl (ev_tmp rfl)) ?_
    refine sq_plain rfl rfl rfl (w_assign rfl (ev_tmp rfl)) ?_
    refine sq_nil ?_
    refine awp_seq ?_
    refine awp_region ?_
    refine sq_plain rfl rfl rfl (w_move rfl (ev_tmp rfl)) ?_
    refine sq_plain rfl rfl rfl (w_call rfl Tryd.call60 rfl (goodKey_spec _ (by omega)) (evl_cons (ev_tmp rfl) evl_nil)) ?_
    refine sq_plain rfl rfl rfl (w_not rfl (ev_tmp rfl)) ?_
    refine sq_plain rfl rfl rfl (w_move rfl (ev_tmp rfl)) ?_
    refine sq_grd rfl rfl (guard_f rfl rfl rfl) (fun hc => w_move rfl (ev_tmp rfl)) ?_
    refine sq_grd rfl rfl (guard_f rfl rfl rfl) (fun hc => w_gtr rfl (ev_whn rfl hc) ev_ci) ?_
    refine sq_grd rfl rfl (guard_f rfl rfl rfl) (fun hc => w_move rfl (ev_whn rfl hc)) ?_
    refine sq_grd rfl rfl (guard_wt rfl rfl rfl) (fun hc => w_move rfl (ev_tmp rfl)) ?_
    refine sq_grd rfl rfl (guard_wt rfl rfl rfl) (fun hc => w_move rfl (ev_tmp rfl)) ?_
    refine sq_grd rfl rfl (guard_wt rfl rfl rfl) (fun hc => w_move rfl (ev_tmp rfl)) ?_
    refine sq_grd rfl rfl (guard_wt rfl rfl rfl) (fun hc => w_subi rfl (ev_whn rfl hc) ev_ci (by first | omega | ((try simp only [List.length_map, List.length_take, List.length_cons, List.length_nil, chunks_len, szR] at *); omega) | (have hc2 := hc; simp only [Bool.and_eq_true, Bool.or_eq_true, Bool.or_eq_false_iff, Bool.and_eq_false_iff, Bool.not_eq_true', Bool.not_eq_false', decide_eq_true_eq, decide_eq_false_iff_not, beq_iff_eq, bne_iff_ne, List.length_map, List.length_take] at hc2; omega))) ?_
    refine sq_grd rfl rfl (guard_wt rfl rfl rfl) (fun hc => w_idxm rfl Tryd.underlying30 Tryd.sizeOf9 (ev_whn rfl hc) (ev_whn rfl hc) hy (by first | omega | ((try simp only [List.length_map, List.length_take, List.length_cons, List.length_nil, chunks_len, szR] at *); omega) | (have hc2 := hc; simp only [Bool.and_eq_true, Bool.or_eq_true, Bool.or_eq_false_iff, Bool.and_eq_false_iff, Bool.not_eq_true', Bool.not_eq_false', decide_eq_true_eq, decide_eq_false_iff_not, beq_iff_eq, bne_iff_ne, List.length_map, List.length_take] at hc2; omega))) ?_
    refine sq_grd rfl rfl (guard_wt rfl rfl rfl) (fun hc => w_loadE1 rfl (ev_whn rfl hc) Tryd.isAgg9 rfl) ?_
    refine sq_grd rfl rfl (guard_wt rfl rfl rfl) (fun hc => w_sleq rfl (ev_whn rfl hc) (ev_whn rfl hc)) ?_
    refine sq_grd rfl rfl (guard_f rfl rfl rfl) (fun hc => w_and rfl (ev_whn rfl hc) (evif_w2 rfl hc)) ?_
    refine sq_plain rfl rfl rfl (w_or rfl (ev_tmp rfl) (evif_w rfl)) ?_
    refine sq_nil ?_
    refine awp_cond (ev_tmp rfl) ?_ ?_
    · intro h27
      have hfin : areRising l = false := by rw [hinv.2]; cases hg : goodKey x with | false => (rw [all_stop hx hg]; simp) | true => (have hb : 0 < i ∧ Op.bytesLess y x = false := (by have := bytesLess_tri y x; simp_all; try grind); rw [adj_stop hx hy hb.1 hb.2]; simp)
      refine awp_seq ?_
      refine awp_region ?_
      refine sq_plain rfl rfl rfl (w_assign rfl ev_cb) ?_
      refine sq_nil ?_
      refine awp_ret ?_
      exact retR rfl (rv_tmp' rfl (by first | exact congrArg AV.bool hfin.symm | exact congrArg AV.bool (by rw [hinv.2, all_end hge, adj_end hge]; rfl)))
    · intro h27
      have hg : goodKey x = true ∧ (0 < i → Op.bytesLess y x = true) := by have := bytesLess_tri y x; simp_all
      refine awp_skip ?_
      refine awp_region ?_
      refine sq_plain rfl rfl rfl (w_addi rfl (ev_tmp rfl) ev_ci (by first | omega | ((try simp only [List.length_map, List.length_take, List.length_cons, List.length_nil, chunks_len, szR] at *); omega) | (have hc2 := hc; simp only [Bool.and_eq_true, Bool.or_eq_true, Bool.or_eq_false_iff, Bool.and_eq_false_iff, Bool.not_eq_true', Bool.not_eq_false', decide_eq_true_eq, decide_eq_false_iff_not, beq_iff_eq, bne_iff_ne, List.length_map, List.length_take] at hc2; omega))) ?_
      refine sq_plain rfl rfl rfl (w_move rfl (ev_tmp rfl)) ?_
      refine sq_nil ?_
      refine round_end i (i + 1) ?_ ?_ (le_env ⟨rfl, rfl, rfl, rfl, trivial⟩)
      · exact ⟨by omega, by rw [hinv.2, all_step hx hg.1, adj_step hx hy hg.2]⟩
      · omega
  · intro h8
    have k8 := of_decide_eq_false h8; try simp only [List.length_map] at k8
    have hge : l.length ≤ i := by omega
    refine awp_exit ?_
    refine awp_seq ?_
    refine awp_region ?_
    refine sq_plain rfl rfl rfl (w_assign rfl ev_cb) ?_
    refine sq_nil ?_
    refine awp_ret ?_
    exact retR rfl (rv_tmp' rfl (by first | exact congrArg AV.bool hfin.symm | exact congrArg AV.bool (by rw [hinv.2, all_end hge, adj_end hge]; rfl)))
end Go.Proofs.YtdgoejkijpllpaaDoor

set_option linter.unusedVariables false
namespace Go.M
open Go.AV
def digs (k : Nat) (out : Str) : Str := if h : 0 < k then digs (k / 10) (UInt8.ofNat (48 + k % 10) :: out) else out
termination_by k
decreasing_by omega
theorem digs_pos {k : Nat} {out : Str} (h : 0 < k) : digs k out = digs (k / 10) (UInt8.ofNat (48 + k % 10) :: out) := by rw [digs, dif_pos h]
theorem digs_zero {k : Nat} {out : Str} (h : ¬ 0 < k) : digs k out = out := by rw [digs, dif_neg h]
def markText (k : Int) : Str := if k ≤ 0 then [109, 48] else 109 :: digs k.toNat []
theorem mk_byte {k : Nat} : IntKind.u8.wrap (48 + ((k : Int).tmod 10)) = ((UInt8.ofNat (48 + k % 10)).toNat : Int) := by
  have h1 : (k : Int).tmod 10 = ((k % 10 : Nat) : Int) := by rw [Int.tmod_eq_emod_of_nonneg (by omega)]; omega
  rw [h1]
  have h2 : (UInt8.ofNat (48 + k % 10)).toNat = 48 + k % 10 := by simp; omega
  rw [h2]
  simp only [IntKind.wrap, IntKind.bits, IntKind.signed]; simp; omega
theorem mk_quo {k : Nat} (h : k ≤ 4611686018427387904) : IntKind.i64.wrap ((k : Int).tdiv 10) = ((k / 10 : Nat) : Int) := by
  have h1 : (k : Int).tdiv 10 = ((k / 10 : Nat) : Int) := by rw [Int.tdiv_eq_ediv_of_nonneg (by omega)]; omega
  rw [h1]; exact in64 (by omega)
def m3 (k : Int) : Bool := (k.tmod 3) == 0
def marks {α : Type} (f : Int → α) (s : Int) : Nat → Int → List α
  | 0, _ => []
  | n + 1, k => f k :: marks f s n (k + s)
theorem marks_len {α : Type} (f : Int → α) (s : Int) : ∀ (n : Nat) (k : Int), (marks f s n k).length = n
  | 0, _ => rfl
  | n + 1, k => by simp [marks, marks_len f s n]
theorem marks_snoc {α : Type} (f : Int → α) (s : Int) : ∀ (n : Nat) (k : Int), marks f s (n + 1) k = marks f s n k ++ [f (k + s * n)]
  | 0, k => by simp [marks]
  | n + 1, k => by
    rw [marks, marks_snoc f s n (k + s)]
    simp only [marks, List.cons_append]
    have e : k + s + s * (n : Int) = k + s * ((n + 1 : Nat) : Int) := by
      rw [Int.natCast_add, Int.mul_add, Int.natCast_one, Int.mul_one, Int.add_assoc, Int.add_comm s]
    rw [e]
theorem marks_get {α : Type} (f : Int → α) (s : Int) : ∀ (n i : Nat) (k : Int), i < n → (marks f s n k)[i]? = some (f (k + s * i))
  | n + 1, 0, k, _ => by simp [marks]
  | n + 1, i + 1, k, h => by
    have e : k + s + s * (i : Int) = k + s * ((i + 1 : Nat) : Int) := by
      rw [Int.natCast_add, Int.mul_add, Int.natCast_one, Int.mul_one, Int.add_assoc, Int.add_comm s]
    simp only [marks, List.getElem?_cons_succ, marks_get f s n i (k + s) (by omega), e]
theorem drop_get {α β : Type} {f : α → β} {l : List α} {i : Nat} {x : α} (h : l[i]? = some x) : (l.drop i).map f = f x :: (l.drop (i + 1)).map f := by rw [drop_some h]; rfl
theorem marks_step {α : Type} {f : Int → α} {s : Int} {i : Nat} {k : Int} {g : α → List AV} {z : List AV} {B : List (List AV)} (h : g (f (k + s * i)) = z) : (marks f s i k).map g ++ z :: B = (marks f s (i + 1) k).map g ++ B := by
  rw [marks_snoc, List.map_append, List.append_assoc, ← h]; rfl

def mkWrite (k : Int) : TWrite := ⟨markText k, markText (k + 1), m3 (k + 1 + 1)⟩
def TRec.ocs (c : TRec) (x : Value × Value) : List AV := [AV.int c.Kind, AV.int c.Txn, AV.int c.Time, AV.int c.Lead, AV.is x.1, AV.is x.2, AV.bool c.Yes]
def TRec.mark (c : TRec) (k : Int) : TRec := ⟨c.Kind, c.Txn, c.Time, c.Lead, marks markText 1 c.Reads.length (k), marks mkWrite 3 c.Writes.length (k + 1 * c.Reads.length), c.Yes⟩
def TRec.markN (c : TRec) (k : Int) : Int := k + 1 * c.Reads.length + 3 * c.Writes.length
def TPlaces.ocs (c : TPlaces) (x : Value × Value) : List AV := [AV.int c.Ver, AV.is x.1, AV.is x.2]
def TPlaces.mark (c : TPlaces) (k : Int) : TPlaces := ⟨c.Ver, marks markText 1 c.Cuts.length (k), marks (fun k : Int => k) 1 c.Groups.length (k + 1 * c.Cuts.length)⟩
def TPlaces.markN (c : TPlaces) (k : Int) : Int := k + 1 * c.Cuts.length + 1 * c.Groups.length
def TMove.ocs (c : TMove) (x : Value × Value) : List AV := [AV.str c.Low, AV.str c.High, AV.int c.Phase, AV.is x.1, AV.is x.2, AV.str c.Last, AV.bool c.Over]
def TMove.mark (c : TMove) (k : Int) : TMove := ⟨c.Low, c.High, c.Phase, marks mkWrite 3 c.From.length (k), marks mkWrite 3 c.To.length (k + 3 * c.From.length), c.Last, c.Over⟩
def TMove.markN (c : TMove) (k : Int) : Int := k + 3 * c.From.length + 3 * c.To.length
end Go.M

set_option linter.unusedVariables false
set_option linter.unusedSimpArgs false
set_option maxRecDepth 100000
namespace Go.Proofs.YtdgoejkijpllpaaDoor
open Go Go.AV Go.M
attribute [local irreducible] OpW OpA OpS AWP FSpec ESpec RetOk RvDen Le Ev GuardIs
theorem eqStringS_spec (a b : List Str) : FSpec Tryd.prog 39 [strs a, strs b] (AV.bool (decide (a = b))) := by
  refine spec_of_awp Tryd.func39 rfl Tryd.ntmps39 rfl ?_
  refine awp_len (t := 0) rfl fun hl => ?_
  try simp only [List.length_map] at hl
  refine awp_seq ?_
  refine awp_region ?_
  refine sq_plain rfl rfl rfl (w_assign rfl ev_cb) ?_
  refine sq_nil ?_
  refine awp_seq ?_
  refine awp_seq ?_
  refine awp_region ?_
  refine sq_plain rfl rfl rfl (w_move rfl (ev_tmp rfl)) ?_
  refine sq_plain rfl rfl rfl (w_llen rfl Tryd.underlying30 (ev_tmp rfl)) ?_
  refine sq_plain rfl rfl rfl (w_move rfl (ev_tmp rfl)) ?_
  refine sq_plain rfl rfl rfl (w_llen rfl Tryd.underlying30 (ev_tmp rfl)) ?_
  refine sq_plain rfl rfl rfl (w_neq rfl (ev_tmp rfl) (ev_tmp rfl)) ?_
  refine sq_nil ?_
  refine awp_cond (ev_tmp rfl) ?_ ?_
  · intro h10
    have k10 := ne_of_bne h10; try simp only [List.length_map] at k10
    have hab : a ≠ b := by intro hc; subst hc; exact k10 rfl
    refine awp_seq ?_
    refine awp_region ?_
    refine sq_plain rfl rfl rfl (w_assign rfl ev_cb) ?_
    refine sq_nil ?_
    refine awp_ret ?_
    exact retR rfl (rv_tmp' rfl (by exact congrArg AV.bool (by simp [hab])))
  · intro h10
    have k10 := eq_of_bne_false h10; try simp only [List.length_map] at k10
    have heq : a.length = b.length := by omega
    refine awp_skip ?_
    refine awp_seq ?_
    refine awp_seq ?_
    refine awp_region ?_
    refine sq_plain rfl rfl rfl (w_assign rfl ev_ci) ?_
    refine sq_nil ?_
    refine awp_block ?_
    refine awp_loop_i [(0, _), (1, _)] _ (fun (i : Nat) => i ≤ a.length ∧ a.take i = b.take i) (fun (i : Nat) => []) (fun (i : Nat) => [(5, AV.int i)]) (fun (i : Nat) => a.length - i) (0) ?_ (le_env ⟨rfl, rfl, rfl, trivial⟩) ?_
    · exact ⟨Nat.zero_le _, rfl⟩
    intro i hinv
    refine awp_seq ?_
    refine awp_seq ?_
    refine awp_region ?_
    refine sq_plain rfl rfl rfl (w_move rfl (ev_tmp rfl)) ?_
    refine sq_plain rfl rfl rfl (w_move rfl (ev_tmp rfl)) ?_
    refine sq_plain rfl rfl rfl (w_llen rfl Tryd.underlying30 (ev_tmp rfl)) ?_
    refine sq_plain rfl rfl rfl (w_lss rfl (ev_tmp rfl) (ev_tmp rfl)) ?_
    refine sq_nil ?_
    refine awp_cond (ev_tmp rfl) ?_ ?_
    · intro h14
      have k14 := of_decide_eq_true h14; try simp only [List.length_map] at k14
      have hlt : i < a.length := by omega
      obtain ⟨x, hx⟩ := get_some hlt
      obtain ⟨y, hy⟩ := get_some (show i < b.length by omega)
      refine awp_skip ?_
      refine awp_seq ?_
      refine awp_block ?_
      refine awp_seq ?_
      refine awp_region_any (by kernel_rfl) (by kernel_rfl) rfl ?_
      refine ch_plain rfl rfl (w_move rfl (ev_tmp rfl)) ?_
      refine ch_plain rfl rfl (w_move rfl (ev_tmp rfl)) ?_
      refine ch_plain rfl rfl (w_idx rfl Tryd.underlying30 Tryd.sizeOf9 (ev_tmp rfl) (ev_tmp rfl) (by omega) (by simp only [Int.toNat_natCast, List.getElem?_map, hx, Option.map_some]; try rfl)) ?_
      refine ch_plain rfl rfl (w_loadE1 rfl (ev_tmp rfl) Tryd.isAgg9 rfl) ?_
      refine ch_plain rfl rfl (w_move rfl (ev_tmp rfl)) ?_
      refine ch_plain rfl rfl (w_move rfl (ev_tmp rfl)) ?_
      refine ch_plain rfl rfl (w_idx rfl Tryd.underlying30 Tryd.sizeOf9 (ev_tmp rfl) (ev_tmp rfl) (by omega) (by simp only [Int.toNat_natCast, List.getElem?_map, hy, Option.map_some]; try rfl)) ?_
      refine ch_plain rfl rfl (w_loadE1 rfl (ev_tmp rfl) Tryd.isAgg9 rfl) ?_
      refine ch_plain rfl rfl (w_sneq rfl (ev_tmp rfl) (ev_tmp rfl)) ?_
      refine ch_nil ?_
      refine awp_cond (ev_tmp rfl) ?_ ?_
      · intro h25
        have hab : a ≠ b := by intro hc; subst hc; rw [hx] at hy; injection hy with hy; subst hy; simp at h25
        refine awp_seq ?_
        refine awp_region ?_
        refine sq_plain rfl rfl rfl (w_assign rfl ev_cb) ?_
        refine sq_nil ?_
        refine awp_ret ?_
        exact retR rfl (rv_tmp' rfl (by exact congrArg AV.bool (by simp [hab])))
      · intro h25
        refine awp_skip ?_
        refine awp_region ?_
        refine sq_plain rfl rfl rfl (w_move rfl (ev_tmp rfl)) ?_
        refine sq_plain rfl rfl rfl (w_addi rfl (ev_tmp rfl) ev_ci (by first | omega | ((try simp only [List.length_map, List.length_take, List.length_cons, List.length_nil, chunks_len, szR] at *); omega) | (have hc2 := hc; simp only [Bool.and_eq_true, Bool.or_eq_true, Bool.or_eq_false_iff, Bool.and_eq_false_iff, Bool.not_eq_true', Bool.not_eq_false', decide_eq_true_eq, decide_eq_false_iff_not, beq_iff_eq, bne_iff_ne, List.length_map, List.length_take] at hc2; omega))) ?_
        refine sq_plain rfl rfl rfl (w_assign rfl (ev_tmp rfl)) ?_
        refine sq_nil ?_
        refine round_end i (i + 1) ?_ ?_ (le_env ⟨rfl, rfl, rfl, trivial⟩)
        · exact ⟨by omega, take_eq_succ hinv.2 hx (by rw [hy]; congr 1; simp_all)⟩
        · omega
    · intro h14
      have k14 := of_decide_eq_false h14; try simp only [List.length_map] at k14
      have hge : a.length ≤ i := by omega
      have hab : a = b := take_eq_of heq hinv.2 hge
      refine awp_exit ?_
      refine awp_seq ?_
      refine awp_region ?_
      refine sq_plain rfl rfl rfl (w_assign rfl ev_cb) ?_
      refine sq_nil ?_
      refine awp_ret ?_
      exact retR rfl (rv_tmp' rfl (by exact congrArg AV.bool (by simp [hab])))
theorem eqIntS_spec (a b : List Int) : FSpec Tryd.prog 40 [ints a, ints b] (AV.bool (decide (a = b))) := by
  refine spec_of_awp Tryd.func40 rfl Tryd.ntmps40 rfl ?_
  refine awp_len (t := 0) rfl fun hl => ?_
  try simp only [List.length_map] at hl
  refine awp_seq ?_
  refine awp_region ?_
  refine sq_plain rfl rfl rfl (w_assign rfl ev_cb) ?_
  refine sq_nil ?_
  refine awp_seq ?_
  refine awp_seq ?_
  refine awp_region ?_
  refine sq_plain rfl rfl rfl (w_move rfl (ev_tmp rfl)) ?_
  refine sq_plain rfl rfl rfl (w_llen rfl Tryd.underlying31 (ev_tmp rfl)) ?_
  refine sq_plain rfl rfl rfl (w_move rfl (ev_tmp rfl)) ?_
  refine sq_plain rfl rfl rfl (w_llen rfl Tryd.underlying31 (ev_tmp rfl)) ?_
  refine sq_plain rfl rfl rfl (w_neq rfl (ev_tmp rfl) (ev_tmp rfl)) ?_
  refine sq_nil ?_
  refine awp_cond (ev_tmp rfl) ?_ ?_
  · intro h10
    have k10 := ne_of_bne h10; try simp only [List.length_map] at k10
    have hab : a ≠ b := by intro hc; subst hc; exact k10 rfl
    refine awp_seq ?_
    refine awp_region ?_
    refine sq_plain rfl rfl rfl (w_assign rfl ev_cb) ?_
    refine sq_nil ?_
    refine awp_ret ?_
    exact retR rfl (rv_tmp' rfl (by exact congrArg AV.bool (by simp [hab])))
  · intro h10
    have k10 := eq_of_bne_false h10; try simp only [List.length_map] at k10
    have heq : a.length = b.length := by omega
    refine awp_skip ?_
    refine awp_seq ?_
    refine awp_seq ?_
    refine awp_region ?_
    refine sq_plain rfl rfl rfl (w_assign rfl ev_ci) ?_
    refine sq_nil ?_
    refine awp_block ?_
    refine awp_loop_i [(0, _), (1, _)] _ (fun (i : Nat) => i ≤ a.length ∧ a.take i = b.take i) (fun (i : Nat) => []) (fun (i : Nat) => [(5, AV.int i)]) (fun (i : Nat) => a.length - i) (0) ?_ (le_env ⟨rfl, rfl, rfl, trivial⟩) ?_
    · exact ⟨Nat.zero_le _, rfl⟩
    intro i hinv
    refine awp_seq ?_
    refine awp_seq ?_
    refine awp_region ?_
    refine sq_plain rfl rfl rfl (w_move rfl (ev_tmp rfl)) ?_
    refine sq_plain rfl rfl rfl (w_move rfl (ev_tmp rfl)) ?_
    refine sq_plain rfl rfl rfl (w_llen rfl Tryd.underlying31 (ev_tmp rfl)) ?_
    refine sq_plain rfl rfl rfl (w_lss rfl (ev_tmp rfl) (ev_tmp rfl)) ?_
    refine sq_nil ?_
    refine awp_cond (ev_tmp rfl) ?_ ?_
    · intro h14
      have k14 := of_decide_eq_true h14; try simp only [List.length_map] at k14
      have hlt : i < a.length := by omega
      obtain ⟨x, hx⟩ := get_some hlt
      obtain ⟨y, hy⟩ := get_some (show i < b.length by omega)
      refine awp_skip ?_
      refine awp_seq ?_
      refine awp_block ?_
      refine awp_seq ?_
      refine awp_region_any (by kernel_rfl) (by kernel_rfl) rfl ?_
      refine ch_plain rfl rfl (w_move rfl (ev_tmp rfl)) ?_
      refine ch_plain rfl rfl (w_move rfl (ev_tmp rfl)) ?_
      refine ch_plain rfl rfl (w_idx rfl Tryd.underlying31 Tryd.sizeOf3 (ev_tmp rfl) (ev_tmp rfl) (by omega) (by simp only [Int.toNat_natCast, List.getElem?_map, hx, Option.map_some]; try rfl)) ?_
      refine ch_plain rfl rfl (w_loadE1 rfl (ev_tmp rfl) Tryd.isAgg3 rfl) ?_
      refine ch_plain rfl rfl (w_move rfl (ev_tmp rfl)) ?_
      refine ch_plain rfl rfl (w_move rfl (ev_tmp rfl)) ?_
      refine ch_plain rfl rfl (w_idx rfl Tryd.underlying31 Tryd.sizeOf3 (ev_tmp rfl) (ev_tmp rfl) (by omega) (by simp only [Int.toNat_natCast, List.getElem?_map, hy, Option.map_some]; try rfl)) ?_
      refine ch_plain rfl rfl (w_loadE1 rfl (ev_tmp rfl) Tryd.isAgg3 rfl) ?_
      refine ch_plain rfl rfl (w_neq rfl (ev_tmp rfl) (ev_tmp rfl)) ?_
      refine ch_nil ?_
      refine awp_cond (ev_tmp rfl) ?_ ?_
      · intro h25
        have k25 := ne_of_bne h25; try simp only [List.length_map] at k25
        have hab : a ≠ b := by intro hc; subst hc; rw [hx] at hy; injection hy with hy; subst hy; simp at h25
        refine awp_seq ?_
        refine awp_region ?_
        refine sq_plain rfl rfl rfl (w_assign rfl ev_cb) ?_
        refine sq_nil ?_
        refine awp_ret ?_
        exact retR rfl (rv_tmp' rfl (by exact congrArg AV.bool (by simp [hab])))
      · intro h25
        have k25 := eq_of_bne_false h25; try simp only [List.length_map] at k25
        refine awp_skip ?_
        refine awp_region ?_
        refine sq_plain rfl rfl rfl (w_move rfl (ev_tmp rfl)) ?_
        refine sq_plain rfl rfl rfl (w_addi rfl (ev_tmp rfl) ev_ci (by first | omega | ((try simp only [List.length_map, List.length_take, List.length_cons, List.length_nil, chunks_len, szR] at *); omega) | (have hc2 := hc; simp only [Bool.and_eq_true, Bool.or_eq_true, Bool.or_eq_false_iff, Bool.and_eq_false_iff, Bool.not_eq_true', Bool.not_eq_false', decide_eq_true_eq, decide_eq_false_iff_not, beq_iff_eq, bne_iff_ne, List.length_map, List.length_take] at hc2; omega))) ?_
        refine sq_plain rfl rfl rfl (w_assign rfl (ev_tmp rfl)) ?_
        refine sq_nil ?_
        refine round_end i (i + 1) ?_ ?_ (le_env ⟨rfl, rfl, rfl, trivial⟩)
        · exact ⟨by omega, take_eq_succ hinv.2 hx (by rw [hy]; congr 1; simp_all)⟩
        · omega
    · intro h14
      have k14 := of_decide_eq_false h14; try simp only [List.length_map] at k14
      have hge : a.length ≤ i := by omega
      have hab : a = b := take_eq_of heq hinv.2 hge
      refine awp_exit ?_
      refine awp_seq ?_
      refine awp_region ?_
      refine sq_plain rfl rfl rfl (w_assign rfl ev_cb) ?_
      refine sq_nil ?_
      refine awp_ret ?_
      exact retR rfl (rv_tmp' rfl (by exact congrArg AV.bool (by simp [hab])))
theorem eqPlaces_spec (a b : TPlaces) : FSpec Tryd.prog 16 [AV.agg a.cs, AV.agg b.cs] (AV.bool (decide (a = b))) := by
  refine spec_of_awp Tryd.func16 rfl Tryd.ntmps16 rfl ?_
  refine awp_seq ?_
  refine awp_region ?_
  refine sq_box rfl rfl rfl rfl (ev_tmp rfl) ?_
  intro b2
  refine sq_box rfl rfl rfl rfl (ev_tmp rfl) ?_
  intro b3
  refine sq_plain rfl rfl rfl (w_assign rfl ev_cb) ?_
  refine sq_nil ?_
  refine awp_seq ?_
  refine awp_seq ?_
  refine awp_region ?_
  refine sq_plain rfl rfl rfl (w_fldBn 0 rfl Tryd.underlying36 rfl Tryd.sizeOf3 (ev_tmp rfl) rfl) ?_
  refine sq_plain rfl rfl rfl (w_loadB1 1 rfl (ev_tmp rfl) rfl Tryd.isAgg3 rfl) ?_
  refine sq_plain rfl rfl rfl (w_fldBn 0 rfl Tryd.underlying36 rfl Tryd.sizeOf3 (ev_tmp rfl) rfl) ?_
  refine sq_plain rfl rfl rfl (w_loadB1 0 rfl (ev_tmp rfl) rfl Tryd.isAgg3 rfl) ?_
  refine sq_plain rfl rfl rfl (w_neq rfl (ev_tmp rfl) (ev_tmp rfl)) ?_
  refine sq_nil ?_
  refine awp_cond (ev_tmp rfl) ?_ ?_
  · intro h9
    have k9 := ne_of_bne h9; try simp only [List.length_map] at k9
    refine awp_seq ?_
    refine awp_region ?_
    refine sq_plain rfl rfl rfl (w_assign rfl ev_cb) ?_
    refine sq_nil ?_
    refine awp_ret ?_
    exact retR rfl (rv_tmp' rfl (by exact congrArg AV.bool (by cases a; cases b; simp_all)))
  · intro h9
    have k9 := eq_of_bne_false h9; try simp only [List.length_map] at k9
    refine awp_skip ?_
    refine awp_seq ?_
    refine awp_seq ?_
    refine awp_region ?_
    refine sq_plain rfl rfl rfl (w_fldBn 1 rfl Tryd.underlying36 rfl Tryd.sizeOf30 (ev_tmp rfl) rfl) ?_
    refine sq_plain rfl rfl rfl (w_loadB1 1 rfl (ev_tmp rfl) rfl Tryd.isAgg30 rfl) ?_
    refine sq_plain rfl rfl rfl (w_fldBn 1 rfl Tryd.underlying36 rfl Tryd.sizeOf30 (ev_tmp rfl) rfl) ?_
    refine sq_plain rfl rfl rfl (w_loadB1 0 rfl (ev_tmp rfl) rfl Tryd.isAgg30 rfl) ?_
    refine sq_plain rfl rfl rfl (w_call rfl Tryd.call39 rfl (eqStringS_spec _ _) (evl_cons (ev_tmp rfl) (evl_cons (ev_tmp rfl) evl_nil))) ?_
    refine sq_plain rfl rfl rfl (w_not rfl (ev_tmp rfl)) ?_
    refine sq_nil ?_
    refine awp_cond (ev_tmp rfl) ?_ ?_
    · intro h15
      refine awp_seq ?_
      refine awp_region ?_
      refine sq_plain rfl rfl rfl (w_assign rfl ev_cb) ?_
      refine sq_nil ?_
      refine awp_ret ?_
      exact retR rfl (rv_tmp' rfl (by exact congrArg AV.bool (by cases a; cases b; simp_all)))
    · intro h15
      refine awp_skip ?_
      refine awp_seq ?_
      refine awp_seq ?_
      refine awp_region ?_
      refine sq_plain rfl rfl rfl (w_fldBn 2 rfl Tryd.underlying36 rfl Tryd.sizeOf31 (ev_tmp rfl) rfl) ?_
      refine sq_plain rfl rfl rfl (w_loadB1 1 rfl (ev_tmp rfl) rfl Tryd.isAgg31 rfl) ?_
      refine sq_plain rfl rfl rfl (w_fldBn 2 rfl Tryd.underlying36 rfl Tryd.sizeOf31 (ev_tmp rfl) rfl) ?_
      refine sq_plain rfl rfl rfl (w_loadB1 0 rfl (ev_tmp rfl) rfl Tryd.isAgg31 rfl) ?_
      refine sq_plain rfl rfl rfl (w_call rfl Tryd.call40 rfl (eqIntS_spec _ _) (evl_cons (ev_tmp rfl) (evl_cons (ev_tmp rfl) evl_nil))) ?_
      refine sq_plain rfl rfl rfl (w_not rfl (ev_tmp rfl)) ?_
      refine sq_nil ?_
      refine awp_cond (ev_tmp rfl) ?_ ?_
      · intro h21
        refine awp_seq ?_
        refine awp_region ?_
        refine sq_plain rfl rfl rfl (w_assign rfl ev_cb) ?_
        refine sq_nil ?_
        refine awp_ret ?_
        exact retR rfl (rv_tmp' rfl (by exact congrArg AV.bool (by cases a; cases b; simp_all)))
      · intro h21
        refine awp_skip ?_
        refine awp_seq ?_
        refine awp_region ?_
        refine sq_plain rfl rfl rfl (w_assign rfl ev_cb) ?_
        refine sq_nil ?_
        refine awp_ret ?_
        exact retR rfl (rv_tmp' rfl (by exact congrArg AV.bool (by cases a; cases b; simp_all)))
end Go.Proofs.YtdgoejkijpllpaaDoor

set_option linter.unusedVariables false
set_option linter.unusedSimpArgs false
set_option maxRecDepth 100000
namespace Go.Proofs.YtdgoejkijpllpaaDoor
open Go Go.AV Go.M
attribute [local irreducible] OpW OpA OpS AWP FSpec ESpec GSpec OpE RetOk RetOkG RvDen Le Ev GuardIs
theorem markText_spec (k : Int) (h : k ≤ 4611686018427387904) : FSpec Tryd.prog 77 [AV.int k] (AV.str (markText k)) := by
  refine spec_of_awp Tryd.func77 rfl Tryd.ntmps77 rfl ?_
  refine awp_seq ?_
  refine awp_region ?_
  refine sq_plain rfl rfl rfl (w_assign rfl (ev_cs' (l := []) rfl)) ?_
  refine sq_nil ?_
  refine awp_seq ?_
  refine awp_seq ?_
  refine awp_region ?_
  refine sq_plain rfl rfl rfl (w_move rfl (ev_tmp rfl)) ?_
  refine sq_plain rfl rfl rfl (w_leq rfl (ev_tmp rfl) ev_ci) ?_
  refine sq_nil ?_
  refine awp_cond (ev_tmp rfl) ?_ ?_
  · intro h5
    have k5 := of_decide_eq_true h5; try simp only [List.length_map] at k5
    have he : markText k = [109, 48] := by unfold markText; rw [if_pos k5]
    rw [he]
    refine awp_seq ?_
    refine awp_region ?_
    refine sq_plain rfl rfl rfl (w_assign rfl (ev_cs' (l := [109, 48]) rfl)) ?_
    refine sq_nil ?_
    refine awp_ret ?_
    exact retR rfl (rv_tmp' rfl (by first | rfl | exact congrArg AV.str (by rw [hz]; rfl)))
  · intro h5
    have k5 := of_decide_eq_false h5; try simp only [List.length_map] at k5
    obtain ⟨m, rfl⟩ : ∃ m : Nat, k = (m : Int) := ⟨k.toNat, by omega⟩
    have he : markText (m : Int) = 109 :: digs m [] := by unfold markText; rw [if_neg k5]; rfl
    rw [he]
    refine awp_skip ?_
    refine awp_seq ?_
    refine awp_region ?_
    refine sq_plain rfl rfl rfl (w_assign rfl (ev_cs' (l := []) rfl)) ?_
    refine sq_nil ?_
    refine awp_seq ?_
    refine awp_block ?_
    refine awp_loop_i2 [(2, _)] _ (fun (j : Nat) (out : Str) => digs m [] = digs j out ∧ out.length + j ≤ m) (fun (j : Nat) (out : Str) => []) (fun (j : Nat) (out : Str) => [(0, AV.int j), (3, AV.str out)]) (fun (j : Nat) (out : Str) => j) (m) ([]) ?_ (le_env ⟨rfl, rfl, rfl, trivial⟩) ?_
    · exact ⟨rfl, by simp⟩
    intro j out hinv
    refine awp_seq ?_
    refine awp_seq ?_
    refine awp_region ?_
    refine sq_plain rfl rfl rfl (w_move rfl (ev_tmp rfl)) ?_
    refine sq_plain rfl rfl rfl (w_gtr rfl (ev_tmp rfl) ev_ci) ?_
    refine sq_nil ?_
    refine awp_cond (ev_tmp rfl) ?_ ?_
    · intro h7
      have k7 := of_decide_eq_true h7; try simp only [List.length_map] at k7
      refine awp_skip ?_
      refine awp_block ?_
      refine awp_seq ?_
      refine awp_region ?_
      refine sq_plain rfl rfl rfl (w_move rfl (ev_tmp rfl)) ?_
      refine sq_plain rfl rfl rfl (w_rem rfl (ev_tmp rfl) ev_ci (by decide)) ?_
      refine sq_plain rfl rfl rfl (w_addi rfl ev_ci (ev_tmp rfl) (by rw [tmod10]; omega)) ?_
      refine sq_plain rfl rfl rfl (w_conv rfl (by kernel_rfl) Tryd.underlying5 (ev_tmp rfl)) ?_
      rw [mk_byte]
      refine sq_plain rfl rfl rfl (w_bslice rfl Tryd.underlying44 Tryd.sizeOf5 Tryd.zeroValue5 rfl rfl rfl rfl (bp_cons (ev_tmp rfl) (as_ik _ _) bp_nil) rfl rfl) ?_
      refine sq_plain rfl rfl rfl (w_convBS (l := [UInt8.ofNat (48 + j % 10)]) rfl Tryd.underlying44 Tryd.underlying5 Tryd.underlying9 (ev_tmp rfl)) ?_
      refine sq_plain rfl rfl rfl (w_move rfl (ev_tmp rfl)) ?_
      refine sq_plain rfl rfl rfl (w_cat rfl (ev_tmp rfl) (ev_tmp rfl) (by first | omega | (simp only [List.length_append, List.length_take, List.length_drop, List.length_cons, List.length_nil]; omega))) ?_
      refine sq_plain rfl rfl rfl (w_assign rfl (ev_tmp rfl)) ?_
      refine sq_nil ?_
      refine awp_region ?_
      refine sq_plain rfl rfl rfl (w_move rfl (ev_tmp rfl)) ?_
      refine sq_plain rfl rfl rfl (w_quo rfl (ev_tmp rfl) ev_ci (by decide)) ?_
      rw [mk_quo (k := j) (by omega)]
      refine sq_plain rfl rfl rfl (w_assign rfl (ev_tmp rfl)) ?_
      refine sq_nil ?_
      refine blockN ?_
      refine round_end2 j out (j / 10) (UInt8.ofNat (48 + j % 10) :: out) ?_ ?_ (le_env ⟨rfl, rfl, rfl, trivial⟩)
      · exact ⟨by rw [hinv.1, digs_pos (by omega)], by simp only [List.length_cons]; omega⟩
      · omega
    · intro h7
      have k7 := of_decide_eq_false h7; try simp only [List.length_map] at k7
      have hz : digs m [] = out := by rw [hinv.1, digs_zero (by omega)]
      refine awp_exit ?_
      refine awp_seq ?_
      refine awp_region ?_
      refine sq_plain rfl rfl rfl (w_move rfl (ev_tmp rfl)) ?_
      refine sq_plain rfl rfl rfl (w_cat rfl (ev_cs' (l := [109]) rfl) (ev_tmp rfl) (by first | omega | (simp only [List.length_append, List.length_take, List.length_drop, List.length_cons, List.length_nil]; omega))) ?_
      refine sq_plain rfl rfl rfl (w_assign rfl (ev_tmp rfl)) ?_
      refine sq_nil ?_
      refine awp_ret ?_
      exact retR rfl (rv_tmp' rfl (by first | rfl | exact congrArg AV.str (by rw [hz]; rfl)))
theorem markIntS_spec (v : Value) (l : List Int) (k : Int) (h : 0 ≤ k ∧ k + 1 * l.length ≤ 4611686018427387904) : GSpec Tryd.prog 52 [AV.is v, AV.int k] [.arr v 3 1 (l.map (fun x => [AV.int x]))] (fun _ : Unit => True) (fun _ => [.arr v 3 1 ((marks (fun k : Int => k) 1 l.length k).map (fun x => [AV.int x]))]) (fun _ => AV.int (k + 1 * l.length)) := by
  refine gspec_of_awp Tryd.func52 rfl Tryd.ntmps52 rfl ?_
  refine awp_seq ?_
  refine awp_region ?_
  refine sq_plain rfl rfl rfl (w_assign rfl ev_ci) ?_
  refine sq_nil ?_
  refine awp_seq ?_
  refine awp_seq ?_
  refine awp_region ?_
  refine sq_plain rfl rfl rfl (w_assign rfl ev_ci) ?_
  refine sq_nil ?_
  refine awp_block ?_
  refine awp_loop_i2 [(0, _), (4, _)] _ (fun (i : Nat) (c : Int) => i ≤ l.length ∧ c = k + 1 * i) (fun (i : Nat) (c : Int) => [.arr v 3 1 ((marks (fun k : Int => k) 1 i k).map (fun x => [AV.int x]) ++ (l.drop i).map (fun x => [AV.int x]))]) (fun (i : Nat) (c : Int) => [(1, AV.int c), (5, AV.int i)]) (fun (i : Nat) (c : Int) => l.length - i) (0) (k) ?_ (le_eq (by simp only [marks, List.map_nil, List.nil_append, List.drop_zero]; rfl) ⟨rfl, rfl, rfl, rfl, trivial⟩) ?_
  · exact ⟨Nat.zero_le _, by simp⟩
  intro i c hinv
  refine awp_seq ?_
  refine awp_seq ?_
  refine awp_region ?_
  refine sq_plain rfl rfl rfl (w_move rfl (ev_tmp rfl)) ?_
  refine sq_plain rfl rfl rfl (w_move rfl (ev_tmp rfl)) ?_
  refine sq_plain rfl rfl rfl (w_alen 0 rfl Tryd.underlying31 (ev_tmp rfl) rfl) ?_
  refine sq_plain rfl rfl rfl (w_lss rfl (ev_tmp rfl) (ev_tmp rfl)) ?_
  refine sq_nil ?_
  refine awp_cond (ev_tmp rfl) ?_ ?_
  · intro h9
    have k9 := of_decide_eq_true h9; try simp only [List.length_map] at k9
    simp only [List.length_append, List.length_map, marks_len, List.length_drop] at k9
    have hlt : i < l.length := by omega
    obtain ⟨x, hx⟩ := get_some hlt
    rw [drop_get hx]
    refine awp_skip ?_
    refine awp_seq ?_
    refine awp_block ?_
    refine awp_seq ?_
    refine awp_region ?_
    refine sq_plain rfl rfl rfl (w_move rfl (ev_tmp rfl)) ?_
    refine sq_plain rfl rfl rfl (w_move rfl (ev_tmp rfl)) ?_
    refine sq_plain rfl rfl rfl (w_move rfl (ev_tmp rfl)) ?_
    refine sq_plain rfl rfl rfl (w_aidx 0 rfl Tryd.underlying31 Tryd.sizeOf3 (ev_tmp rfl) rfl (ev_tmp rfl) (by omega) (by simp only [List.length_append, List.length_map, marks_len, List.length_cons, List.length_drop]; omega)) ?_
    refine sq_storeAA 0 rfl rfl rfl (ev_tmp rfl) (ev_tmp rfl) (as_ik _ _) rfl Tryd.sizeOf3 rfl (by simp [marks_len]) ?_
    refine sq_nil ?_
    refine awp_region ?_
    refine sq_plain rfl rfl rfl (w_move rfl (ev_tmp rfl)) ?_
    refine sq_plain rfl rfl rfl (w_addi rfl (ev_tmp rfl) ev_ci (by first | omega | ((try simp only [List.length_map, List.length_take, List.length_cons, List.length_nil, chunks_len, szR] at *); omega) | (have hc2 := hc; simp only [Bool.and_eq_true, Bool.or_eq_true, Bool.or_eq_false_iff, Bool.and_eq_false_iff, Bool.not_eq_true', Bool.not_eq_false', decide_eq_true_eq, decide_eq_false_iff_not, beq_iff_eq, bne_iff_ne, List.length_map, List.length_take] at hc2; omega))) ?_
    refine sq_plain rfl rfl rfl (w_assign rfl (ev_tmp rfl)) ?_
    refine sq_nil ?_
    refine awp_region ?_
    refine sq_plain rfl rfl rfl (w_move rfl (ev_tmp rfl)) ?_
    refine sq_plain rfl rfl rfl (w_addi rfl (ev_tmp rfl) ev_ci (by first | omega | ((try simp only [List.length_map, List.length_take, List.length_cons, List.length_nil, chunks_len, szR] at *); omega) | (have hc2 := hc; simp only [Bool.and_eq_true, Bool.or_eq_true, Bool.or_eq_false_iff, Bool.and_eq_false_iff, Bool.not_eq_true', Bool.not_eq_false', decide_eq_true_eq, decide_eq_false_iff_not, beq_iff_eq, bne_iff_ne, List.length_map, List.length_take] at hc2; omega))) ?_
    refine sq_plain rfl rfl rfl (w_assign rfl (ev_tmp rfl)) ?_
    refine sq_nil ?_
    refine round_end2 i c (i + 1) (c + 1) ?_ ?_ (le_eq (by exact congrArg (fun z => [Own.arr v 3 1 z]) (marks_step (by first | (rw [← hinv.2]; done) | (rw [← hinv.2]; rfl)))) ⟨rfl, rfl, rfl, rfl, trivial⟩)
    · exact ⟨by omega, by omega⟩
    · omega
  · intro h9
    have k9 := of_decide_eq_false h9; try simp only [List.length_map] at k9
    simp only [List.length_append, List.length_map, marks_len, List.length_drop] at k9
    have hge : i = l.length := by omega
    subst hge
    simp only [List.drop_length, List.map_nil, List.append_nil]
    refine awp_exit ?_
    refine awp_seq ?_
    refine awp_region ?_
    refine sq_plain rfl rfl rfl (w_move rfl (ev_tmp rfl)) ?_
    refine sq_plain rfl rfl rfl (w_assign rfl (ev_tmp rfl)) ?_
    refine sq_nil ?_
    refine awp_ret ?_
    exact retG [0] () (trivial) rfl (by rfl) (resR rfl (rv_tmp' rfl (by exact congrArg AV.int (by omega))))
theorem heldIntS_spec (m : Nat) (k : Int) (h : 0 ≤ k ∧ k + 1 * m ≤ 4611686018427387904) : FSpec Tryd.prog 54 [ints ((marks (fun k : Int => k) 1 m k)), AV.int k] (AV.int (k + 1 * m)) := by
  refine spec_of_awp Tryd.func54 rfl Tryd.ntmps54 rfl ?_
  refine awp_seq ?_
  refine awp_region ?_
  refine sq_plain rfl rfl rfl (w_assign rfl ev_ci) ?_
  refine sq_nil ?_
  refine awp_seq ?_
  refine awp_seq ?_
  refine awp_region ?_
  refine sq_plain rfl rfl rfl (w_assign rfl ev_ci) ?_
  refine sq_nil ?_
  refine awp_block ?_
  refine awp_loop_i2 [(0, _)] _ (fun (i : Nat) (c : Int) => i ≤ m ∧ c = k + 1 * i) (fun (i : Nat) (c : Int) => []) (fun (i : Nat) (c : Int) => [(1, AV.int c), (5, AV.int i)]) (fun (i : Nat) (c : Int) => m - i) (0) (k) ?_ (le_env ⟨rfl, rfl, rfl, trivial⟩) ?_
  · exact ⟨Nat.zero_le _, by simp⟩
  intro i c hinv
  refine awp_seq ?_
  refine awp_seq ?_
  refine awp_region ?_
  refine sq_plain rfl rfl rfl (w_move rfl (ev_tmp rfl)) ?_
  refine sq_plain rfl rfl rfl (w_move rfl (ev_tmp rfl)) ?_
  refine sq_plain rfl rfl rfl (w_llen rfl Tryd.underlying31 (ev_tmp rfl)) ?_
  refine sq_plain rfl rfl rfl (w_lss rfl (ev_tmp rfl) (ev_tmp rfl)) ?_
  refine sq_nil ?_
  refine awp_cond (ev_tmp rfl) ?_ ?_
  · intro h9
    have k9 := of_decide_eq_true h9; try simp only [List.length_map] at k9
    simp only [List.length_map, marks_len] at k9
    have hlt : i < m := by omega
    have hx := marks_get (fun k : Int => k) 1 m i k hlt
    rw [← hinv.2] at hx
    refine awp_skip ?_
    refine awp_seq ?_
    refine awp_block ?_
    refine awp_seq ?_
    refine awp_seq ?_
    refine awp_region ?_
    refine sq_plain rfl rfl rfl (w_move rfl (ev_tmp rfl)) ?_
    refine sq_plain rfl rfl rfl (w_move rfl (ev_tmp rfl)) ?_
    refine sq_plain rfl rfl rfl (w_idxm rfl Tryd.underlying31 Tryd.sizeOf3 (ev_tmp rfl) (ev_tmp rfl) hx (by first | omega | ((try simp only [List.length_map, List.length_take, List.length_cons, List.length_nil, chunks_len, szR] at *); omega) | (have hc2 := hc; simp only [Bool.and_eq_true, Bool.or_eq_true, Bool.or_eq_false_iff, Bool.and_eq_false_iff, Bool.not_eq_true', Bool.not_eq_false', decide_eq_true_eq, decide_eq_false_iff_not, beq_iff_eq, bne_iff_ne, List.length_map, List.length_take] at hc2; omega))) ?_
    refine sq_plain rfl rfl rfl (w_loadE1 rfl (ev_tmp rfl) Tryd.isAgg3 rfl) ?_
    refine sq_plain rfl rfl rfl (w_move rfl (ev_tmp rfl)) ?_
    refine sq_plain rfl rfl rfl (w_neq rfl (ev_tmp rfl) (ev_tmp rfl)) ?_
    refine sq_nil ?_
    refine awp_cond (ev_tmp rfl) ?_ ?_
    · intro h17
      have k17 := ne_of_bne h17; try simp only [List.length_map] at k17
      exfalso; simp [m3] at h17
    · intro h17
      have k17 := eq_of_bne_false h17; try simp only [List.length_map] at k17
      refine awp_skip ?_
      refine awp_region ?_
      refine sq_plain rfl rfl rfl (w_move rfl (ev_tmp rfl)) ?_
      refine sq_plain rfl rfl rfl (w_addi rfl (ev_tmp rfl) ev_ci (by first | omega | ((try simp only [List.length_map, List.length_take, List.length_cons, List.length_nil, chunks_len, szR] at *); omega) | (have hc2 := hc; simp only [Bool.and_eq_true, Bool.or_eq_true, Bool.or_eq_false_iff, Bool.and_eq_false_iff, Bool.not_eq_true', Bool.not_eq_false', decide_eq_true_eq, decide_eq_false_iff_not, beq_iff_eq, bne_iff_ne, List.length_map, List.length_take] at hc2; omega))) ?_
      refine sq_plain rfl rfl rfl (w_assign rfl (ev_tmp rfl)) ?_
      refine sq_nil ?_
      refine awp_region ?_
      refine sq_plain rfl rfl rfl (w_move rfl (ev_tmp rfl)) ?_
      refine sq_plain rfl rfl rfl (w_addi rfl (ev_tmp rfl) ev_ci (by first | omega | ((try simp only [List.length_map, List.length_take, List.length_cons, List.length_nil, chunks_len, szR] at *); omega) | (have hc2 := hc; simp only [Bool.and_eq_true, Bool.or_eq_true, Bool.or_eq_false_iff, Bool.and_eq_false_iff, Bool.not_eq_true', Bool.not_eq_false', decide_eq_true_eq, decide_eq_false_iff_not, beq_iff_eq, bne_iff_ne, List.length_map, List.length_take] at hc2; omega))) ?_
      refine sq_plain rfl rfl rfl (w_assign rfl (ev_tmp rfl)) ?_
      refine sq_nil ?_
      refine round_end2 i c (i + 1) (c + 1) ?_ ?_ (le_env ⟨rfl, rfl, rfl, trivial⟩)
      · exact ⟨by omega, by omega⟩
      · omega
  · intro h9
    have k9 := of_decide_eq_false h9; try simp only [List.length_map] at k9
    simp only [List.length_map, marks_len] at k9
    refine awp_exit ?_
    refine awp_seq ?_
    refine awp_region ?_
    refine sq_plain rfl rfl rfl (w_move rfl (ev_tmp rfl)) ?_
    refine sq_plain rfl rfl rfl (w_assign rfl (ev_tmp rfl)) ?_
    refine sq_nil ?_
    refine awp_ret ?_
    exact retR rfl (rv_tmp' rfl (by exact congrArg AV.int (by omega)))
theorem markStringS_spec (v : Value) (l : List Str) (k : Int) (h : 0 ≤ k ∧ k + 1 * l.length ≤ 4611686018427387904) : GSpec Tryd.prog 51 [AV.is v, AV.int k] [.arr v 9 1 (l.map (fun x => [AV.str x]))] (fun _ : Unit => True) (fun _ => [.arr v 9 1 ((marks markText 1 l.length k).map (fun x => [AV.str x]))]) (fun _ => AV.int (k + 1 * l.length)) := by
  refine gspec_of_awp Tryd.func51 rfl Tryd.ntmps51 rfl ?_
  refine awp_seq ?_
  refine awp_region ?_
  refine sq_plain rfl rfl rfl (w_assign rfl ev_ci) ?_
  refine sq_nil ?_
  refine awp_seq ?_
  refine awp_seq ?_
  refine awp_region ?_
  refine sq_plain rfl rfl rfl (w_assign rfl ev_ci) ?_
  refine sq_nil ?_
  refine awp_block ?_
  refine awp_loop_i2 [(0, _), (4, _)] _ (fun (i : Nat) (c : Int) => i ≤ l.length ∧ c = k + 1 * i) (fun (i : Nat) (c : Int) => [.arr v 9 1 ((marks markText 1 i k).map (fun x => [AV.str x]) ++ (l.drop i).map (fun x => [AV.str x]))]) (fun (i : Nat) (c : Int) => [(1, AV.int c), (5, AV.int i)]) (fun (i : Nat) (c : Int) => l.length - i) (0) (k) ?_ (le_eq (by simp only [marks, List.map_nil, List.nil_append, List.drop_zero]; rfl) ⟨rfl, rfl, rfl, rfl, trivial⟩) ?_
  · exact ⟨Nat.zero_le _, by simp⟩
  intro i c hinv
  refine awp_seq ?_
  refine awp_seq ?_
  refine awp_region ?_
  refine sq_plain rfl rfl rfl (w_move rfl (ev_tmp rfl)) ?_
  refine sq_plain rfl rfl rfl (w_move rfl (ev_tmp rfl)) ?_
  refine sq_plain rfl rfl rfl (w_alen 0 rfl Tryd.underlying30 (ev_tmp rfl) rfl) ?_
  refine sq_plain rfl rfl rfl (w_lss rfl (ev_tmp rfl) (ev_tmp rfl)) ?_
  refine sq_nil ?_
  refine awp_cond (ev_tmp rfl) ?_ ?_
  · intro h9
    have k9 := of_decide_eq_true h9; try simp only [List.length_map] at k9
    simp only [List.length_append, List.length_map, marks_len, List.length_drop] at k9
    have hlt : i < l.length := by omega
    obtain ⟨x, hx⟩ := get_some hlt
    rw [drop_get hx]
    refine awp_skip ?_
    refine awp_seq ?_
    refine awp_block ?_
    refine awp_seq ?_
    refine awp_region ?_
    refine sq_plain rfl rfl rfl (w_move rfl (ev_tmp rfl)) ?_
    refine sq_plain rfl rfl rfl (w_move rfl (ev_tmp rfl)) ?_
    refine sq_plain rfl rfl rfl (w_move rfl (ev_tmp rfl)) ?_
    refine sq_plain rfl rfl rfl (w_call rfl Tryd.call77 rfl (markText_spec _ (by omega)) (evl_cons (ev_tmp rfl) evl_nil)) ?_
    refine sq_plain rfl rfl rfl (w_aidx 0 rfl Tryd.underlying30 Tryd.sizeOf9 (ev_tmp rfl) rfl (ev_tmp rfl) (by omega) (by simp only [List.length_append, List.length_map, marks_len, List.length_cons, List.length_drop]; omega)) ?_
    refine sq_storeAA 0 rfl rfl rfl (ev_tmp rfl) (ev_tmp rfl) (as_str _) rfl Tryd.sizeOf9 rfl (by simp [marks_len]) ?_
    refine sq_nil ?_
    refine awp_region ?_
    refine sq_plain rfl rfl rfl (w_move rfl (ev_tmp rfl)) ?_
    refine sq_plain rfl rfl rfl (w_addi rfl (ev_tmp rfl) ev_ci (by first | omega | ((try simp only [List.length_map, List.length_take, List.length_cons, List.length_nil, chunks_len, szR] at *); omega) | (have hc2 := hc; simp only [Bool.and_eq_true, Bool.or_eq_true, Bool.or_eq_false_iff, Bool.and_eq_false_iff, Bool.not_eq_true', Bool.not_eq_false', decide_eq_true_eq, decide_eq_false_iff_not, beq_iff_eq, bne_iff_ne, List.length_map, List.length_take] at hc2; omega))) ?_
    refine sq_plain rfl rfl rfl (w_assign rfl (ev_tmp rfl)) ?_
    refine sq_nil ?_
    refine awp_region ?_
    refine sq_plain rfl rfl rfl (w_move rfl (ev_tmp rfl)) ?_
    refine sq_plain rfl rfl rfl (w_addi rfl (ev_tmp rfl) ev_ci (by first | omega | ((try simp only [List.length_map, List.length_take, List.length_cons, List.length_nil, chunks_len, szR] at *); omega) | (have hc2 := hc; simp only [Bool.and_eq_true, Bool.or_eq_true, Bool.or_eq_false_iff, Bool.and_eq_false_iff, Bool.not_eq_true', Bool.not_eq_false', decide_eq_true_eq, decide_eq_false_iff_not, beq_iff_eq, bne_iff_ne, List.length_map, List.length_take] at hc2; omega))) ?_
    refine sq_plain rfl rfl rfl (w_assign rfl (ev_tmp rfl)) ?_
    refine sq_nil ?_
    refine round_end2 i c (i + 1) (c + 1) ?_ ?_ (le_eq (by exact congrArg (fun z => [Own.arr v 9 1 z]) (marks_step (by first | (rw [← hinv.2]; done) | (rw [← hinv.2]; rfl)))) ⟨rfl, rfl, rfl, rfl, trivial⟩)
    · exact ⟨by omega, by omega⟩
    · omega
  · intro h9
    have k9 := of_decide_eq_false h9; try simp only [List.length_map] at k9
    simp only [List.length_append, List.length_map, marks_len, List.length_drop] at k9
    have hge : i = l.length := by omega
    subst hge
    simp only [List.drop_length, List.map_nil, List.append_nil]
    refine awp_exit ?_
    refine awp_seq ?_
    refine awp_region ?_
    refine sq_plain rfl rfl rfl (w_move rfl (ev_tmp rfl)) ?_
    refine sq_plain rfl rfl rfl (w_assign rfl (ev_tmp rfl)) ?_
    refine sq_nil ?_
    refine awp_ret ?_
    exact retG [0] () (trivial) rfl (by rfl) (resR rfl (rv_tmp' rfl (by exact congrArg AV.int (by omega))))
theorem heldStringS_spec (m : Nat) (k : Int) (h : 0 ≤ k ∧ k + 1 * m ≤ 4611686018427387904) : FSpec Tryd.prog 53 [strs ((marks markText 1 m k)), AV.int k] (AV.int (k + 1 * m)) := by
  refine spec_of_awp Tryd.func53 rfl Tryd.ntmps53 rfl ?_
  refine awp_seq ?_
  refine awp_region ?_
  refine sq_plain rfl rfl rfl (w_assign rfl ev_ci) ?_
  refine sq_nil ?_
  refine awp_seq ?_
  refine awp_seq ?_
  refine awp_region ?_
  refine sq_plain rfl rfl rfl (w_assign rfl ev_ci) ?_
  refine sq_nil ?_
  refine awp_block ?_
  refine awp_loop_i2 [(0, _)] _ (fun (i : Nat) (c : Int) => i ≤ m ∧ c = k + 1 * i) (fun (i : Nat) (c : Int) => []) (fun (i : Nat) (c : Int) => [(1, AV.int c), (5, AV.int i)]) (fun (i : Nat) (c : Int) => m - i) (0) (k) ?_ (le_env ⟨rfl, rfl, rfl, trivial⟩) ?_
  · exact ⟨Nat.zero_le _, by simp⟩
  intro i c hinv
  refine awp_seq ?_
  refine awp_seq ?_
  refine awp_region ?_
  refine sq_plain rfl rfl rfl (w_move rfl (ev_tmp rfl)) ?_
  refine sq_plain rfl rfl rfl (w_move rfl (ev_tmp rfl)) ?_
  refine sq_plain rfl rfl rfl (w_llen rfl Tryd.underlying30 (ev_tmp rfl)) ?_
  refine sq_plain rfl rfl rfl (w_lss rfl (ev_tmp rfl) (ev_tmp rfl)) ?_
  refine sq_nil ?_
  refine awp_cond (ev_tmp rfl) ?_ ?_
  · intro h9
    have k9 := of_decide_eq_true h9; try simp only [List.length_map] at k9
    simp only [List.length_map, marks_len] at k9
    have hlt : i < m := by omega
    have hx := marks_get markText 1 m i k hlt
    rw [← hinv.2] at hx
    refine awp_skip ?_
    refine awp_seq ?_
    refine awp_block ?_
    refine awp_seq ?_
    refine awp_seq ?_
    refine awp_region_any (by kernel_rfl) (by kernel_rfl) rfl ?_
    refine ch_plain rfl rfl (w_move rfl (ev_tmp rfl)) ?_
    refine ch_plain rfl rfl (w_move rfl (ev_tmp rfl)) ?_
    refine ch_plain rfl rfl (w_idxm rfl Tryd.underlying30 Tryd.sizeOf9 (ev_tmp rfl) (ev_tmp rfl) hx (by first | omega | ((try simp only [List.length_map, List.length_take, List.length_cons, List.length_nil, chunks_len, szR] at *); omega) | (have hc2 := hc; simp only [Bool.and_eq_true, Bool.or_eq_true, Bool.or_eq_false_iff, Bool.and_eq_false_iff, Bool.not_eq_true', Bool.not_eq_false', decide_eq_true_eq, decide_eq_false_iff_not, beq_iff_eq, bne_iff_ne, List.length_map, List.length_take] at hc2; omega))) ?_
    refine ch_plain rfl rfl (w_loadE1 rfl (ev_tmp rfl) Tryd.isAgg9 rfl) ?_
    refine ch_plain rfl rfl (w_move rfl (ev_tmp rfl)) ?_
    refine ch_plain rfl rfl (w_call rfl Tryd.call77 rfl (markText_spec _ (by omega)) (evl_cons (ev_tmp rfl) evl_nil)) ?_
    refine ch_plain rfl rfl (w_sneq rfl (ev_tmp rfl) (ev_tmp rfl)) ?_
    refine ch_nil ?_
    refine awp_cond (ev_tmp rfl) ?_ ?_
    · intro h18
      exfalso; simp [m3] at h18
    · intro h18
      refine awp_skip ?_
      refine awp_region ?_
      refine sq_plain rfl rfl rfl (w_move rfl (ev_tmp rfl)) ?_
      refine sq_plain rfl rfl rfl (w_addi rfl (ev_tmp rfl) ev_ci (by first | omega | ((try simp only [List.length_map, List.length_take, List.length_cons, List.length_nil, chunks_len, szR] at *); omega) | (have hc2 := hc; simp only [Bool.and_eq_true, Bool.or_eq_true, Bool.or_eq_false_iff, Bool.and_eq_false_iff, Bool.not_eq_true', Bool.not_eq_false', decide_eq_true_eq, decide_eq_false_iff_not, beq_iff_eq, bne_iff_ne, List.length_map, List.length_take] at hc2; omega))) ?_
      refine sq_plain rfl rfl rfl (w_assign rfl (ev_tmp rfl)) ?_
      refine sq_nil ?_
      refine awp_region ?_
      refine sq_plain rfl rfl rfl (w_move rfl (ev_tmp rfl)) ?_
      refine sq_plain rfl rfl rfl (w_addi rfl (ev_tmp rfl) ev_ci (by first | omega | ((try simp only [List.length_map, List.length_take, List.length_cons, List.length_nil, chunks_len, szR] at *); omega) | (have hc2 := hc; simp only [Bool.and_eq_true, Bool.or_eq_true, Bool.or_eq_false_iff, Bool.and_eq_false_iff, Bool.not_eq_true', Bool.not_eq_false', decide_eq_true_eq, decide_eq_false_iff_not, beq_iff_eq, bne_iff_ne, List.length_map, List.length_take] at hc2; omega))) ?_
      refine sq_plain rfl rfl rfl (w_assign rfl (ev_tmp rfl)) ?_
      refine sq_nil ?_
      refine round_end2 i c (i + 1) (c + 1) ?_ ?_ (le_env ⟨rfl, rfl, rfl, trivial⟩)
      · exact ⟨by omega, by omega⟩
      · omega
  · intro h9
    have k9 := of_decide_eq_false h9; try simp only [List.length_map] at k9
    simp only [List.length_map, marks_len] at k9
    refine awp_exit ?_
    refine awp_seq ?_
    refine awp_region ?_
    refine sq_plain rfl rfl rfl (w_move rfl (ev_tmp rfl)) ?_
    refine sq_plain rfl rfl rfl (w_assign rfl (ev_tmp rfl)) ?_
    refine sq_nil ?_
    refine awp_ret ?_
    exact retR rfl (rv_tmp' rfl (by exact congrArg AV.int (by omega)))
def TRec.ow (c : TRec) (x : Value × Value) : List Own := [.arr x.1 9 1 (c.Reads.map (fun x => [AV.str x])), .arr x.2 90 3 (c.Writes.map TWrite.cs)]
theorem TRec.lc (c : TRec) (x : Value × Value) : LendC (TRec.ow c x) (TRec.ocs c x) c.cs := (lc_cons lt_refl (lc_cons lt_refl (lc_cons lt_refl (lc_cons lt_refl (lc_cons (lt_arr (List.mem_of_getElem? (i := 0) rfl) le_refl_e) (lc_cons (lt_arr (List.mem_of_getElem? (i := 1) rfl) le_refl_e) (lc_cons lt_refl lc_nil)))))))
def TPlaces.ow (c : TPlaces) (x : Value × Value) : List Own := [.arr x.1 9 1 (c.Cuts.map (fun x => [AV.str x])), .arr x.2 3 1 (c.Groups.map (fun x => [AV.int x]))]
theorem TPlaces.lc (c : TPlaces) (x : Value × Value) : LendC (TPlaces.ow c x) (TPlaces.ocs c x) c.cs := (lc_cons lt_refl (lc_cons (lt_arr (List.mem_of_getElem? (i := 0) rfl) le_refl_e) (lc_cons (lt_arr (List.mem_of_getElem? (i := 1) rfl) le_refl_e) lc_nil)))
theorem markPlaces_spec (c : TPlaces) (x : Value × Value) (k : Int) (h : 0 ≤ k ∧ c.markN k ≤ 4611686018427387904) : GSpec Tryd.prog 25 [AV.agg (TPlaces.ocs c x), AV.int k] (TPlaces.ow c x) (fun _ : Unit => True) (fun _ => TPlaces.ow (c.mark k) x) (fun _ => AV.int (c.markN k)) := by
  unfold TPlaces.markN at h
  refine gspec_of_awp Tryd.func25 rfl Tryd.ntmps25 rfl ?_
  refine awp_seq ?_
  refine awp_region ?_
  refine sq_box rfl rfl rfl rfl (ev_tmp rfl) ?_
  intro b2
  refine sq_plain rfl rfl rfl (w_assign rfl ev_ci) ?_
  refine sq_nil ?_
  refine awp_seq ?_
  refine awp_region ?_
  refine sq_plain rfl rfl rfl (w_fldBn 1 rfl Tryd.underlying36 rfl Tryd.sizeOf30 (ev_tmp rfl) rfl) ?_
  refine sq_plain rfl rfl rfl (w_loadB1 0 rfl (ev_tmp rfl) rfl Tryd.isAgg30 rfl) ?_
  refine sq_plain rfl rfl rfl (w_move rfl (ev_tmp rfl)) ?_
  refine sq_callG [1] rfl rfl rfl rfl Tryd.call51 rfl (markStringS_spec _ _ _ (by first | assumption | first | omega | (refine ⟨by omega, ?_⟩; simp only [marks_len] at *; omega))) (evl_cons (ev_tmp rfl) (evl_cons (ev_tmp rfl) evl_nil)) rfl ?_
  intro x8 ok8
  refine sq_plain rfl rfl rfl (w_assign rfl (ev_tmp rfl)) ?_
  refine sq_nil ?_
  refine awp_seq ?_
  refine awp_region ?_
  refine sq_plain rfl rfl rfl (w_fldBn 2 rfl Tryd.underlying36 rfl Tryd.sizeOf31 (ev_tmp rfl) rfl) ?_
  refine sq_plain rfl rfl rfl (w_loadB1 1 rfl (ev_tmp rfl) rfl Tryd.isAgg31 rfl) ?_
  refine sq_plain rfl rfl rfl (w_move rfl (ev_tmp rfl)) ?_
  refine sq_callG [2] rfl rfl rfl rfl Tryd.call52 rfl (markIntS_spec _ _ _ (by first | assumption | first | omega | (refine ⟨by omega, ?_⟩; simp only [marks_len] at *; omega))) (evl_cons (ev_tmp rfl) (evl_cons (ev_tmp rfl) evl_nil)) rfl ?_
  intro x12 ok12
  refine sq_plain rfl rfl rfl (w_assign rfl (ev_tmp rfl)) ?_
  refine sq_nil ?_
  refine awp_seq ?_
  refine awp_region ?_
  refine sq_plain rfl rfl rfl (w_move rfl (ev_tmp rfl)) ?_
  refine sq_plain rfl rfl rfl (w_assign rfl (ev_tmp rfl)) ?_
  refine sq_nil ?_
  refine awp_ret ?_
  exact retG [1, 0] () (trivial) rfl (by rfl) (resR rfl (rv_tmp' rfl (by rfl)))
theorem heldPlaces_spec (c : TPlaces) (k : Int) (h : 0 ≤ k ∧ c.markN k ≤ 4611686018427387904) : FSpec Tryd.prog 26 [AV.agg (c.mark k).cs, AV.int k] (AV.int (c.markN k)) := by
  unfold TPlaces.markN at h
  refine spec_of_awp Tryd.func26 rfl Tryd.ntmps26 rfl ?_
  refine awp_seq ?_
  refine awp_region ?_
  refine sq_box rfl rfl rfl rfl (ev_tmp rfl) ?_
  intro b2
  refine sq_plain rfl rfl rfl (w_assign rfl ev_ci) ?_
  refine sq_nil ?_
  refine awp_seq ?_
  refine awp_region ?_
  refine sq_plain rfl rfl rfl (w_fldBn 1 rfl Tryd.underlying36 rfl Tryd.sizeOf30 (ev_tmp rfl) rfl) ?_
  refine sq_plain rfl rfl rfl (w_loadB1 0 rfl (ev_tmp rfl) rfl Tryd.isAgg30 rfl) ?_
  refine sq_plain rfl rfl rfl (w_move rfl (ev_tmp rfl)) ?_
  refine sq_plain rfl rfl rfl (w_call rfl Tryd.call53 rfl (heldStringS_spec _ _ (by first | assumption | first | omega | (refine ⟨by omega, ?_⟩; simp only [marks_len] at *; omega))) (evl_cons (ev_tmp rfl) (evl_cons (ev_tmp rfl) evl_nil))) ?_
  refine sq_plain rfl rfl rfl (w_assign rfl (ev_tmp rfl)) ?_
  refine sq_nil ?_
  refine awp_seq ?_
  refine awp_seq ?_
  refine awp_region ?_
  refine sq_plain rfl rfl rfl (w_move rfl (ev_tmp rfl)) ?_
  refine sq_plain rfl rfl rfl (w_lss rfl (ev_tmp rfl) ev_ci) ?_
  refine sq_nil ?_
  refine awp_cond (ev_tmp rfl) ?_ ?_
  · intro h10
    have k10 := of_decide_eq_true h10; try simp only [List.length_map] at k10
    exfalso; have := of_decide_eq_true h10; omega
  · intro h10
    have k10 := of_decide_eq_false h10; try simp only [List.length_map] at k10
    refine awp_skip ?_
    refine awp_seq ?_
    refine awp_region ?_
    refine sq_plain rfl rfl rfl (w_fldBn 2 rfl Tryd.underlying36 rfl Tryd.sizeOf31 (ev_tmp rfl) rfl) ?_
    refine sq_plain rfl rfl rfl (w_loadB1 0 rfl (ev_tmp rfl) rfl Tryd.isAgg31 rfl) ?_
    refine sq_plain rfl rfl rfl (w_move rfl (ev_tmp rfl)) ?_
    refine sq_plain rfl rfl rfl (w_call rfl Tryd.call54 rfl (heldIntS_spec _ _ (by first | assumption | first | omega | (refine ⟨by omega, ?_⟩; simp only [marks_len] at *; omega))) (evl_cons (ev_tmp rfl) (evl_cons (ev_tmp rfl) evl_nil))) ?_
    refine sq_plain rfl rfl rfl (w_assign rfl (ev_tmp rfl)) ?_
    refine sq_nil ?_
    refine awp_seq ?_
    refine awp_seq ?_
    refine awp_region ?_
    refine sq_plain rfl rfl rfl (w_move rfl (ev_tmp rfl)) ?_
    refine sq_plain rfl rfl rfl (w_lss rfl (ev_tmp rfl) ev_ci) ?_
    refine sq_nil ?_
    refine awp_cond (ev_tmp rfl) ?_ ?_
    · intro h16
      have k16 := of_decide_eq_true h16; try simp only [List.length_map] at k16
      exfalso; have := of_decide_eq_true h16; omega
    · intro h16
      have k16 := of_decide_eq_false h16; try simp only [List.length_map] at k16
      refine awp_skip ?_
      refine awp_seq ?_
      refine awp_region ?_
      refine sq_plain rfl rfl rfl (w_move rfl (ev_tmp rfl)) ?_
      refine sq_plain rfl rfl rfl (w_assign rfl (ev_tmp rfl)) ?_
      refine sq_nil ?_
      refine awp_ret ?_
      exact retR rfl (rv_tmp' rfl (by rfl))
def TMove.ow (c : TMove) (x : Value × Value) : List Own := [.arr x.1 90 3 (c.From.map TWrite.cs), .arr x.2 90 3 (c.To.map TWrite.cs)]
theorem TMove.lc (c : TMove) (x : Value × Value) : LendC (TMove.ow c x) (TMove.ocs c x) c.cs := (lc_cons lt_refl (lc_cons lt_refl (lc_cons lt_refl (lc_cons (lt_arr (List.mem_of_getElem? (i := 0) rfl) le_refl_e) (lc_cons (lt_arr (List.mem_of_getElem? (i := 1) rfl) le_refl_e) (lc_cons lt_refl (lc_cons lt_refl lc_nil)))))))
end Go.Proofs.YtdgoejkijpllpaaDoor

set_option linter.unusedVariables false
set_option linter.unusedSimpArgs false
set_option maxRecDepth 100000
namespace Go.Proofs.YtdgoejkijpllpaaDoor
open Go Go.AV Go.M
attribute [local irreducible] OpW OpA OpS AWP FSpec ESpec GSpec OpE RetOk RetOkG RvDen Le Ev GuardIs SrcIs
theorem cuts_ok {p : TPlaces} (hs : p.size ≤ 4194304) : ∀ k ∈ p.Cuts, k.length ≤ 4611686018427387904 := fun k hk => by
  have h1 := sizeL_mem (f := fun x : Str => x.length) hk
  unfold TPlaces.size at hs
  omega
theorem goodPlaces1_spec (g : Int) : FSpec Tryd.prog 68 [AV.int g] (AV.bool (!isGroup g)) := by
  refine spec_of_awp Tryd.func68 rfl Tryd.ntmps68 rfl ?_
  refine awp_seq ?_
  refine awp_region ?_
  refine sq_plain rfl rfl rfl (w_assign rfl ev_cb) ?_
  refine sq_nil ?_
  refine awp_seq ?_
  refine awp_region ?_
  refine sq_plain rfl rfl rfl (w_move rfl (ev_tmp rfl)) ?_
  refine sq_plain rfl rfl rfl (w_call rfl Tryd.call59 rfl (isGroup_spec _) (evl_cons (ev_tmp rfl) evl_nil)) ?_
  refine sq_plain rfl rfl rfl (w_not rfl (ev_tmp rfl)) ?_
  refine sq_plain rfl rfl rfl (w_assign rfl (ev_tmp rfl)) ?_
  refine sq_nil ?_
  refine awp_ret ?_
  exact retR rfl (rv_tmp' rfl (by first | rfl | (refine congrArg AV.bool ?_; simp_all; done)))
theorem goodPlaces_spec (p : TPlaces) (hs : p.size ≤ 4194304) : FSpec Tryd.prog 37 [AV.agg p.cs] (AV.bool (goodPlaces p)) := by
  have hc := cuts_ok hs
  have hs' := hs; unfold TPlaces.size at hs'
  have hl : p.Cuts.length ≤ 4194304 := Nat.le_trans sizeL_len (show sizeL (fun x : Str => x.length) p.Cuts ≤ 4194304 by omega)
  refine spec_of_awp Tryd.func37 rfl Tryd.ntmps37 rfl ?_
  refine awp_seq ?_
  refine awp_region ?_
  refine sq_box rfl rfl rfl rfl (ev_tmp rfl) ?_
  intro b1
  refine sq_plain rfl rfl rfl (w_assign rfl ev_cb) ?_
  refine sq_nil ?_
  refine awp_seq ?_
  refine awp_region ?_
  refine sq_plain rfl rfl rfl (w_fldBn 0 rfl Tryd.underlying36 rfl Tryd.sizeOf3 (ev_tmp rfl) rfl) ?_
  refine sq_plain rfl rfl rfl (w_loadB1 0 rfl (ev_tmp rfl) rfl Tryd.isAgg3 rfl) ?_
  refine sq_plain rfl rfl rfl (w_call rfl Tryd.call65 rfl (within_spec _ _ _) (evl_cons (ev_tmp rfl) (evl_cons ev_ci (evl_cons ev_ci evl_nil)))) ?_
  refine sq_plain rfl rfl rfl (w_move rfl (ev_tmp rfl)) ?_
  refine sq_grd rfl rfl (guard_t rfl rfl rfl) (fun hc => w_fldBn 1 rfl Tryd.underlying36 rfl Tryd.sizeOf30 (ev_tmp rfl) rfl) ?_
  refine sq_grd rfl rfl (guard_t rfl rfl rfl) (fun hc => w_loadB1 0 rfl (ev_whn rfl hc) rfl Tryd.isAgg30 rfl) ?_
  refine sq_grd rfl rfl (guard_t rfl rfl rfl) (fun hc => w_llen rfl Tryd.underlying30 (ev_whn rfl hc)) ?_
  refine sq_grd rfl rfl (guard_t rfl rfl rfl) (fun hc => w_leq rfl (ev_whn rfl hc) ev_ci) ?_
  refine sq_plain rfl rfl rfl (w_and rfl (ev_tmp rfl) (evif_w rfl)) ?_
  refine sq_plain rfl rfl rfl (w_move rfl (ev_tmp rfl)) ?_
  refine sq_grd rfl rfl (guard_t rfl rfl rfl) (fun hc => w_fldBn 1 rfl Tryd.underlying36 rfl Tryd.sizeOf30 (ev_tmp rfl) rfl) ?_
  refine sq_grd rfl rfl (guard_t rfl rfl rfl) (fun hc => w_loadB1 0 rfl (ev_whn rfl hc) rfl Tryd.isAgg30 rfl) ?_
  refine sq_grd rfl rfl (guard_t rfl rfl rfl) (fun hc => w_call rfl Tryd.call66 rfl (areRising_spec _ (cuts_ok hs)) (evl_cons (ev_whn rfl hc) evl_nil)) ?_
  refine sq_plain rfl rfl rfl (w_and rfl (ev_tmp rfl) (evif_w rfl)) ?_
  refine sq_plain rfl rfl rfl (w_move rfl (ev_tmp rfl)) ?_
  refine sq_grd rfl rfl (guard_t rfl rfl rfl) (fun hc => w_fldBn 2 rfl Tryd.underlying36 rfl Tryd.sizeOf31 (ev_tmp rfl) rfl) ?_
  refine sq_grd rfl rfl (guard_t rfl rfl rfl) (fun hc => w_loadB1 0 rfl (ev_whn rfl hc) rfl Tryd.isAgg31 rfl) ?_
  refine sq_grd rfl rfl (guard_t rfl rfl rfl) (fun hc => w_llen rfl Tryd.underlying31 (ev_whn rfl hc)) ?_
  refine sq_grd rfl rfl (guard_t rfl rfl rfl) (fun hc => w_fldBn 1 rfl Tryd.underlying36 rfl Tryd.sizeOf30 (ev_tmp rfl) rfl) ?_
  refine sq_grd rfl rfl (guard_t rfl rfl rfl) (fun hc => w_loadB1 0 rfl (ev_whn rfl hc) rfl Tryd.isAgg30 rfl) ?_
  refine sq_grd rfl rfl (guard_t rfl rfl rfl) (fun hc => w_llen rfl Tryd.underlying30 (ev_whn rfl hc)) ?_
  refine sq_grd rfl rfl (guard_t rfl rfl rfl) (fun hc => w_addi rfl (ev_whn rfl hc) ev_ci (by simp only [List.length_map]; omega)) ?_
  refine sq_grd rfl rfl (guard_t rfl rfl rfl) (fun hc => w_eql rfl (ev_whn rfl hc) (ev_whn rfl hc)) ?_
  refine sq_plain rfl rfl rfl (w_and rfl (ev_tmp rfl) (evif_w rfl)) ?_
  refine sq_plain rfl rfl rfl (w_move rfl (ev_tmp rfl)) ?_
  refine sq_grd rfl rfl (guard_t rfl rfl rfl) (fun hc => w_fldBn 2 rfl Tryd.underlying36 rfl Tryd.sizeOf31 (ev_tmp rfl) rfl) ?_
  refine sq_grd rfl rfl (guard_t rfl rfl rfl) (fun hc => w_loadB1 0 rfl (ev_whn rfl hc) rfl Tryd.isAgg31 rfl) ?_
  refine sq_grd rfl rfl (guard_t rfl rfl rfl) (fun hc => w_call rfl Tryd.call67 rfl (containsFuncInt_spec _ _ _ (by first | (intros; trivial) | assumption | (intros; first | trivial | (simp_all; done)))) (evl_cons (ev_whn rfl hc) (evl_cons (ev_fun1 Tryd.call68 (fun g (_ : True) => goodPlaces1_spec g)) evl_nil))) ?_
  refine sq_grd rfl rfl (guard_t rfl rfl rfl) (fun hc => w_not rfl (ev_whn rfl hc)) ?_
  refine sq_plain rfl rfl rfl (w_and rfl (ev_tmp rfl) (evif_w rfl)) ?_
  refine sq_plain rfl rfl rfl (w_assign rfl (ev_tmp rfl)) ?_
  refine sq_nil ?_
  refine awp_ret ?_
  exact retR rfl (rv_tmp' rfl (by exact congrArg AV.bool (by unfold goodPlaces; simp only [List.length_map])))
theorem l1All_spec (l : List Int) (a b : Int) : FSpec Tryd.prog 64 [ints l, AV.int a, AV.int b] (AV.bool (l.all fun g => within g a b)) := by
  refine spec_of_awp Tryd.func64 rfl Tryd.ntmps64 rfl ?_
  refine awp_len (t := 0) rfl fun hl => ?_
  try simp only [List.length_map] at hl
  refine awp_seq ?_
  refine awp_region ?_
  refine sq_plain rfl rfl rfl (w_assign rfl ev_cb) ?_
  refine sq_nil ?_
  refine awp_seq ?_
  refine awp_seq ?_
  refine awp_region ?_
  refine sq_plain rfl rfl rfl (w_move rfl (ev_tmp rfl)) ?_
  refine sq_plain rfl rfl rfl (w_llen rfl Tryd.underlying31 (ev_tmp rfl)) ?_
  refine sq_plain rfl rfl rfl (w_move rfl ev_ci) ?_
  refine sq_nil ?_
  refine awp_block ?_
  refine awp_loop_i [(1, _), (2, _), (9, _), (10, _)] _ (fun (i : Nat) => i ≤ l.length ∧ (l.all fun g => within g a b) = ((l.drop i).all fun g => within g a b)) (fun (i : Nat) => []) (fun (i : Nat) => [(11, AV.int i)]) (fun (i : Nat) => l.length - i) (0) ?_ (le_env ⟨rfl, rfl, rfl, rfl, rfl, trivial⟩) ?_
  · exact ⟨Nat.zero_le _, rfl⟩
  intro i hinv
  refine awp_seq ?_
  refine awp_region ?_
  refine sq_plain rfl rfl rfl (w_lss rfl (ev_tmp rfl) (ev_tmp rfl)) ?_
  refine sq_nil ?_
  refine awp_seq ?_
  refine awp_cond (ev_tmp rfl) ?_ ?_
  · intro h12
    have k12 := of_decide_eq_true h12; try simp only [List.length_map] at k12
    have hlt : i < l.length := by omega
    obtain ⟨x, hx⟩ := get_some hlt
    refine awp_skip ?_
    refine awp_seq ?_
    refine awp_block ?_
    refine awp_seq ?_
    refine awp_region ?_
    refine sq_plain rfl rfl rfl (w_idxm rfl Tryd.underlying31 Tryd.sizeOf3 (ev_tmp rfl) (ev_tmp rfl) hx (by first | omega | ((try simp only [List.length_map, List.length_take, List.length_cons, List.length_nil, chunks_len, szR] at *); omega) | (have hc2 := hc; simp only [Bool.and_eq_true, Bool.or_eq_true, Bool.or_eq_false_iff, Bool.and_eq_false_iff, Bool.not_eq_true', Bool.not_eq_false', decide_eq_true_eq, decide_eq_false_iff_not, beq_iff_eq, bne_iff_ne, List.length_map, List.length_take] at hc2; omega))) ?_
    refine sq_plain rfl rfl rfl (w_loadE1 rfl (ev_tmp rfl) Tryd.isAgg3 rfl) ?_
    refine sq_plain rfl rfl rfl (w_assign rfl (ev_tmp rfl)) ?_
    refine sq_nil ?_
    refine awp_seq ?_
    refine awp_region ?_
    refine sq_plain rfl rfl rfl (w_move rfl (ev_tmp rfl)) ?_
    refine sq_plain rfl rfl rfl (w_move rfl (ev_tmp rfl)) ?_
    refine sq_plain rfl rfl rfl (w_move rfl (ev_tmp rfl)) ?_
    refine sq_plain rfl rfl rfl (w_call rfl Tryd.call55 rfl (l1In_spec _ _ _) (evl_cons (ev_tmp rfl) (evl_cons (ev_tmp rfl) (evl_cons (ev_tmp rfl) evl_nil)))) ?_
    refine sq_plain rfl rfl rfl (w_not rfl (ev_tmp rfl)) ?_
    refine sq_nil ?_
    refine awp_cond (ev_tmp rfl) ?_ ?_
    · intro h19
      refine awp_seq ?_
      refine awp_region ?_
      refine sq_plain rfl rfl rfl (w_assign rfl ev_cb) ?_
      refine sq_nil ?_
      refine awp_ret ?_
      exact retR rfl (rv_tmp' rfl (by first | exact congrArg AV.bool (by rw [hinv.2, all_stop hx (by simpa using h19)]) | exact congrArg AV.bool (by rw [hinv.2, all_end hge])))
    · intro h19
      refine awp_skip ?_
      refine awp_region ?_
      refine sq_plain rfl rfl rfl (w_addi rfl (ev_tmp rfl) ev_ci (by first | omega | ((try simp only [List.length_map, List.length_take, List.length_cons, List.length_nil, chunks_len, szR] at *); omega) | (have hc2 := hc; simp only [Bool.and_eq_true, Bool.or_eq_true, Bool.or_eq_false_iff, Bool.and_eq_false_iff, Bool.not_eq_true', Bool.not_eq_false', decide_eq_true_eq, decide_eq_false_iff_not, beq_iff_eq, bne_iff_ne, List.length_map, List.length_take] at hc2; omega))) ?_
      refine sq_plain rfl rfl rfl (w_move rfl (ev_tmp rfl)) ?_
      refine sq_nil ?_
      refine round_end i (i + 1) ?_ ?_ (le_env ⟨rfl, rfl, rfl, rfl, rfl, trivial⟩)
      · exact ⟨by omega, by rw [hinv.2, all_step hx (by simpa using h19)]⟩
      · omega
  · intro h12
    have k12 := of_decide_eq_false h12; try simp only [List.length_map] at k12
    have hge : l.length ≤ i := by omega
    refine awp_exit ?_
    refine awp_seq ?_
    refine awp_region ?_
    refine sq_plain rfl rfl rfl (w_assign rfl ev_cb) ?_
    refine sq_nil ?_
    refine awp_ret ?_
    exact retR rfl (rv_tmp' rfl (by first | exact congrArg AV.bool (by rw [hinv.2, all_stop hx (by simpa using h19)]) | exact congrArg AV.bool (by rw [hinv.2, all_end hge])))
theorem goodPlacesS_spec (p : TPlaces) (hs : p.size ≤ 4194304) : FSpec Tryd.prog 33 [AV.agg p.cs] (AV.bool (goodPlacesS p)) := by
  have hco := cuts_ok hs
  have hs' := hs; unfold TPlaces.size at hs'
  have hl : p.Cuts.length ≤ 4194304 := Nat.le_trans sizeL_len (show sizeL (fun x : Str => x.length) p.Cuts ≤ 4194304 by omega)
  refine spec_of_awp Tryd.func33 rfl Tryd.ntmps33 rfl ?_
  refine awp_seq ?_
  refine awp_region ?_
  refine sq_box rfl rfl rfl rfl (ev_tmp rfl) ?_
  intro b1
  refine sq_plain rfl rfl rfl (w_assign rfl ev_cb) ?_
  refine sq_nil ?_
  refine awp_seq ?_
  refine awp_seq ?_
  refine awp_region ?_
  refine sq_plain rfl rfl rfl (w_fldBn 1 rfl Tryd.underlying36 rfl Tryd.sizeOf30 (ev_tmp rfl) rfl) ?_
  refine sq_plain rfl rfl rfl (w_loadB1 0 rfl (ev_tmp rfl) rfl Tryd.isAgg30 rfl) ?_
  refine sq_plain rfl rfl rfl (w_llen rfl Tryd.underlying30 (ev_tmp rfl)) ?_
  refine sq_plain rfl rfl rfl (w_move rfl ev_ci) ?_
  refine sq_nil ?_
  refine awp_block ?_
  refine awp_loop_i [(1, _), (6, _), (7, _)] _ (fun (i : Nat) => i ≤ p.Cuts.length ∧ (p.Cuts.all l3Key && adj Op.bytesLess p.Cuts) = ((p.Cuts.drop i).all l3Key && adj Op.bytesLess (p.Cuts.drop (i - 1)))) (fun (i : Nat) => []) (fun (i : Nat) => [(8, AV.int i)]) (fun (i : Nat) => p.Cuts.length - i) (0) ?_ (le_env ⟨rfl, rfl, rfl, rfl, trivial⟩) ?_
  · exact ⟨Nat.zero_le _, rfl⟩
  intro i hinv
  refine awp_seq ?_
  refine awp_region ?_
  refine sq_plain rfl rfl rfl (w_lss rfl (ev_tmp rfl) (ev_tmp rfl)) ?_
  refine sq_nil ?_
  refine awp_seq ?_
  refine awp_cond (ev_tmp rfl) ?_ ?_
  · intro h9
    have k9 := of_decide_eq_true h9; try simp only [List.length_map] at k9
    have hlt : i < p.Cuts.length := by omega
    obtain ⟨x, hx⟩ := get_some hlt
    obtain ⟨y, hy⟩ := get_some (show i - 1 < p.Cuts.length by omega)
    have hsx := hco x (List.mem_of_getElem? hx)
    refine awp_skip ?_
    refine awp_seq ?_
    refine awp_block ?_
    refine awp_seq ?_
    refine awp_region ?_
    refine sq_plain rfl rfl rfl (w_move rfl (ev_tmp rfl)) ?_
    refine sq_plain rfl rfl rfl (w_idxm rfl Tryd.underlying30 Tryd.sizeOf9 (ev_tmp rfl) (ev_tmp rfl) hx (by first | omega | ((try simp only [List.length_map, List.length_take, List.length_cons, List.length_nil, chunks_len, szR] at *); omega) | (have hc2 := hc; simp only [Bool.and_eq_true, Bool.or_eq_true, Bool.or_eq_false_iff, Bool.and_eq_false_iff, Bool.not_eq_true', Bool.not_eq_false', decide_eq_true_eq, decide_eq_false_iff_not, beq_iff_eq, bne_iff_ne, List.length_map, List.length_take] at hc2; omega))) ?_
    refine sq_plain rfl rfl rfl (w_loadE1 rfl (ev_tmp rfl) Tryd.isAgg9 rfl) ?_
    refine sq_plain rfl rfl rfl (w_assign rfl (ev_tmp rfl)) ?_
    refine sq_plain rfl rfl rfl (w_assign rfl (ev_tmp rfl)) ?_
    refine sq_nil ?_
    refine awp_seq ?_
    refine awp_region ?_
    refine sq_plain rfl rfl rfl (w_move rfl (ev_tmp rfl)) ?_
    refine sq_plain rfl rfl rfl (w_call rfl Tryd.call63 rfl (l3Key_spec _ (by omega)) (evl_cons (ev_tmp rfl) evl_nil)) ?_
    refine sq_plain rfl rfl rfl (w_not rfl (ev_tmp rfl)) ?_
    refine sq_plain rfl rfl rfl (w_move rfl (ev_tmp rfl)) ?_
    refine sq_grd rfl rfl (guard_f rfl rfl rfl) (fun hc => w_move rfl (ev_tmp rfl)) ?_
    refine sq_grd rfl rfl (guard_f rfl rfl rfl) (fun hc => w_gtr rfl (ev_whn rfl hc) ev_ci) ?_
    refine sq_grd rfl rfl (guard_f rfl rfl rfl) (fun hc => w_move rfl (ev_whn rfl hc)) ?_
    refine sq_grd rfl rfl (guard_wt rfl rfl rfl) (fun hc => w_fldBn 1 rfl Tryd.underlying36 rfl Tryd.sizeOf30 (ev_tmp rfl) rfl) ?_
    refine sq_grd rfl rfl (guard_wt rfl rfl rfl) (fun hc => w_loadB1 0 rfl (ev_whn rfl hc) rfl Tryd.isAgg30 rfl) ?_
    refine sq_grd rfl rfl (guard_wt rfl rfl rfl) (fun hc => w_move rfl (ev_tmp rfl)) ?_
    refine sq_grd rfl rfl (guard_wt rfl rfl rfl) (fun hc => w_subi rfl (ev_whn rfl hc) ev_ci (by first | omega | ((try simp only [List.length_map, List.length_take, List.length_cons, List.length_nil, chunks_len, szR] at *); omega) | (have hc2 := hc; simp only [Bool.and_eq_true, Bool.or_eq_true, Bool.or_eq_false_iff, Bool.and_eq_false_iff, Bool.not_eq_true', Bool.not_eq_false', decide_eq_true_eq, decide_eq_false_iff_not, beq_iff_eq, bne_iff_ne, List.length_map, List.length_take] at hc2; omega))) ?_
    refine sq_grd rfl rfl (guard_wt rfl rfl rfl) (fun hc => w_idxm rfl Tryd.underlying30 Tryd.sizeOf9 (ev_whn rfl hc) (ev_whn rfl hc) hy (by first | omega | ((try simp only [List.length_map, List.length_take, List.length_cons, List.length_nil, chunks_len, szR] at *); omega) | (have hc2 := hc; simp only [Bool.and_eq_true, Bool.or_eq_true, Bool.or_eq_false_iff, Bool.and_eq_false_iff, Bool.not_eq_true', Bool.not_eq_false', decide_eq_true_eq, decide_eq_false_iff_not, beq_iff_eq, bne_iff_ne, List.length_map, List.length_take] at hc2; omega))) ?_
    refine sq_grd rfl rfl (guard_wt rfl rfl rfl) (fun hc => w_loadE1 rfl (ev_whn rfl hc) Tryd.isAgg9 rfl) ?_
    refine sq_grd rfl rfl (guard_wt rfl rfl rfl) (fun hc => w_move rfl (ev_tmp rfl)) ?_
    refine sq_grd rfl rfl (guard_wt rfl rfl rfl) (fun hc => w_sgeq rfl (ev_whn rfl hc) (ev_whn rfl hc)) ?_
    refine sq_grd rfl rfl (guard_f rfl rfl rfl) (fun hc => w_and rfl (ev_whn rfl hc) (evif_w2 rfl hc)) ?_
    refine sq_plain rfl rfl rfl (w_or rfl (ev_tmp rfl) (evif_w rfl)) ?_
    refine sq_nil ?_
    refine awp_cond (ev_tmp rfl) ?_ ?_
    · intro h29
      have hfin : goodPlacesS p = false := by unfold goodPlacesS; rw [hinv.2]; cases hg : l3Key x with | false => (rw [all_stop hx hg]; simp) | true => (have hb : 0 < i ∧ Op.bytesLess y x = false := (by have := bytesLess_tri y x; simp_all; try grind); rw [adj_stop hx hy hb.1 hb.2]; simp)
      refine awp_seq ?_
      refine awp_region ?_
      refine sq_plain rfl rfl rfl (w_assign rfl ev_cb) ?_
      refine sq_nil ?_
      refine awp_ret ?_
      exact retR rfl (rv_tmp' rfl (by first | exact congrArg AV.bool hfin.symm | exact congrArg AV.bool (by unfold goodPlacesS; rw [hinv.2, all_end hge, adj_end hge]; simp only [List.length_map, Bool.true_and])))
    · intro h29
      have hg : l3Key x = true ∧ (0 < i → Op.bytesLess y x = true) := by have := bytesLess_tri y x; simp_all
      refine awp_skip ?_
      refine awp_region ?_
      refine sq_plain rfl rfl rfl (w_addi rfl (ev_tmp rfl) ev_ci (by first | omega | ((try simp only [List.length_map, List.length_take, List.length_cons, List.length_nil, chunks_len, szR] at *); omega) | (have hc2 := hc; simp only [Bool.and_eq_true, Bool.or_eq_true, Bool.or_eq_false_iff, Bool.and_eq_false_iff, Bool.not_eq_true', Bool.not_eq_false', decide_eq_true_eq, decide_eq_false_iff_not, beq_iff_eq, bne_iff_ne, List.length_map, List.length_take] at hc2; omega))) ?_
      refine sq_plain rfl rfl rfl (w_move rfl (ev_tmp rfl)) ?_
      refine sq_nil ?_
      refine round_end i (i + 1) ?_ ?_ (le_env ⟨rfl, rfl, rfl, rfl, trivial⟩)
      · exact ⟨by omega, by rw [hinv.2, all_step hx hg.1, adj_step hx hy hg.2]⟩
      · omega
  · intro h9
    have k9 := of_decide_eq_false h9; try simp only [List.length_map] at k9
    have hge : p.Cuts.length ≤ i := by omega
    refine awp_exit ?_
    refine awp_seq ?_
    refine awp_region ?_
    refine sq_plain rfl rfl rfl (w_fldBn 0 rfl Tryd.underlying36 rfl Tryd.sizeOf3 (ev_tmp rfl) rfl) ?_
    refine sq_plain rfl rfl rfl (w_loadB1 0 rfl (ev_tmp rfl) rfl Tryd.isAgg3 rfl) ?_
    refine sq_plain rfl rfl rfl (w_call rfl Tryd.call55 rfl (l1In_spec _ _ _) (evl_cons (ev_tmp rfl) (evl_cons ev_ci (evl_cons ev_ci evl_nil)))) ?_
    refine sq_plain rfl rfl rfl (w_move rfl (ev_tmp rfl)) ?_
    refine sq_grd rfl rfl (guard_t rfl rfl rfl) (fun hc => w_fldBn 1 rfl Tryd.underlying36 rfl Tryd.sizeOf30 (ev_tmp rfl) rfl) ?_
    refine sq_grd rfl rfl (guard_t rfl rfl rfl) (fun hc => w_loadB1 0 rfl (ev_whn rfl hc) rfl Tryd.isAgg30 rfl) ?_
    refine sq_grd rfl rfl (guard_t rfl rfl rfl) (fun hc => w_llen rfl Tryd.underlying30 (ev_whn rfl hc)) ?_
    refine sq_grd rfl rfl (guard_t rfl rfl rfl) (fun hc => w_leq rfl (ev_whn rfl hc) ev_ci) ?_
    refine sq_plain rfl rfl rfl (w_and rfl (ev_tmp rfl) (evif_w rfl)) ?_
    refine sq_plain rfl rfl rfl (w_move rfl (ev_tmp rfl)) ?_
    refine sq_grd rfl rfl (guard_t rfl rfl rfl) (fun hc => w_fldBn 2 rfl Tryd.underlying36 rfl Tryd.sizeOf31 (ev_tmp rfl) rfl) ?_
    refine sq_grd rfl rfl (guard_t rfl rfl rfl) (fun hc => w_loadB1 0 rfl (ev_whn rfl hc) rfl Tryd.isAgg31 rfl) ?_
    refine sq_grd rfl rfl (guard_t rfl rfl rfl) (fun hc => w_llen rfl Tryd.underlying31 (ev_whn rfl hc)) ?_
    refine sq_grd rfl rfl (guard_t rfl rfl rfl) (fun hc => w_fldBn 1 rfl Tryd.underlying36 rfl Tryd.sizeOf30 (ev_tmp rfl) rfl) ?_
    refine sq_grd rfl rfl (guard_t rfl rfl rfl) (fun hc => w_loadB1 0 rfl (ev_whn rfl hc) rfl Tryd.isAgg30 rfl) ?_
    refine sq_grd rfl rfl (guard_t rfl rfl rfl) (fun hc => w_llen rfl Tryd.underlying30 (ev_whn rfl hc)) ?_
    refine sq_grd rfl rfl (guard_t rfl rfl rfl) (fun hc => w_addi rfl (ev_whn rfl hc) ev_ci (by simp only [List.length_map]; omega)) ?_
    refine sq_grd rfl rfl (guard_t rfl rfl rfl) (fun hc => w_eql rfl (ev_whn rfl hc) (ev_whn rfl hc)) ?_
    refine sq_plain rfl rfl rfl (w_and rfl (ev_tmp rfl) (evif_w rfl)) ?_
    refine sq_plain rfl rfl rfl (w_move rfl (ev_tmp rfl)) ?_
    refine sq_grd rfl rfl (guard_t rfl rfl rfl) (fun hc => w_fldBn 2 rfl Tryd.underlying36 rfl Tryd.sizeOf31 (ev_tmp rfl) rfl) ?_
    refine sq_grd rfl rfl (guard_t rfl rfl rfl) (fun hc => w_loadB1 0 rfl (ev_whn rfl hc) rfl Tryd.isAgg31 rfl) ?_
    refine sq_grd rfl rfl (guard_t rfl rfl rfl) (fun hc => w_call rfl Tryd.call64 rfl (l1All_spec _ _ _) (evl_cons (ev_whn rfl hc) (evl_cons ev_ci (evl_cons ev_ci evl_nil)))) ?_
    refine sq_plain rfl rfl rfl (w_and rfl (ev_tmp rfl) (evif_w rfl)) ?_
    refine sq_plain rfl rfl rfl (w_assign rfl (ev_tmp rfl)) ?_
    refine sq_nil ?_
    refine awp_ret ?_
    exact retR rfl (rv_tmp' rfl (by first | exact congrArg AV.bool hfin.symm | exact congrArg AV.bool (by unfold goodPlacesS; rw [hinv.2, all_end hge, adj_end hge]; simp only [List.length_map, Bool.true_and])))
end Go.Proofs.YtdgoejkijpllpaaDoor

namespace Go.Proofs
open Go.Shelf
set_option linter.unusedVariables false
def Tryd.itoaS_ren : Go.Shelf.Ren := ⟨fun | 171 => 62 | 243 => 81 | 246 => 96 | 283 => 109 | 284 => 110 | 285 => 111 | 286 => 112 | 129 => 120 | 317 => 119 | 318 => 121 | 319 => 122 | 320 => 123 | 337 => 126 | 338 => 127 | n => n, fun | 3 => 3 | 9 => 9 | 2 => 2 | 4 => 4 | 171 => 112 | 0 => 0 | 53 => 70 | 37 => 44 | 5 => 5 | 173 => 115 | 212 => 127 | 51 => 123 | 20 => 20 | 213 => 128 | 46 => 111 | 232 => 140 | 233 => 141 | n => n, fun | 17 => 3 | 18 => 6 | 19 => 7 | n => n⟩
theorem Tryd.itoaS : Go.Proofs.Lays.n171 Tryd.prog Tryd.itoaS_ren := {
  mixed := by kernel_rfl
  f129 := Tryd.func120.trans (congrArg some (by kernel_rfl))
  f171 := Tryd.func62.trans (congrArg some (by kernel_rfl))
  f243 := Tryd.func81.trans (congrArg some (by kernel_rfl))
  f246 := Tryd.func96.trans (congrArg some (by kernel_rfl))
  f283 := Tryd.func109.trans (congrArg some (by kernel_rfl))
  f284 := Tryd.func110.trans (congrArg some (by kernel_rfl))
  f285 := Tryd.func111.trans (congrArg some (by kernel_rfl))
  f286 := Tryd.func112.trans (congrArg some (by kernel_rfl))
  f317 := Tryd.func119.trans (congrArg some (by kernel_rfl))
  f318 := Tryd.func121.trans (congrArg some (by kernel_rfl))
  f319 := Tryd.func122.trans (congrArg some (by kernel_rfl))
  f320 := Tryd.func123.trans (congrArg some (by kernel_rfl))
  f337 := Tryd.func126.trans (congrArg some (by kernel_rfl))
  f338 := Tryd.func127.trans (congrArg some (by kernel_rfl))
  t0 := Tryd.underlying0
  a0 := Tryd.isAgg0
  z0 := Tryd.sizeOf0
  v0 := Tryd.zeroValue0
  t2 := Tryd.underlying2
  a2 := Tryd.isAgg2
  z2 := Tryd.sizeOf2
  v2 := Tryd.zeroValue2
  t3 := Tryd.underlying3
  a3 := Tryd.isAgg3
  z3 := Tryd.sizeOf3
  v3 := Tryd.zeroValue3
  t4 := Tryd.underlying4
  a4 := Tryd.isAgg4
  z4 := Tryd.sizeOf4
  v4 := Tryd.zeroValue4
  t5 := Tryd.underlying5
  a5 := Tryd.isAgg5
  z5 := Tryd.sizeOf5
  v5 := Tryd.zeroValue5
  t9 := Tryd.underlying9
  a9 := Tryd.isAgg9
  z9 := Tryd.sizeOf9
  v9 := Tryd.zeroValue9
  t20 := Tryd.underlying20
  a20 := Tryd.isAgg20
  z20 := Tryd.sizeOf20
  v20 := Tryd.zeroValue20
  t37 := Tryd.underlying44
  a37 := Tryd.isAgg44
  z37 := Tryd.sizeOf44
  v37 := Tryd.zeroValue44
  t46 := Tryd.underlying111
  a46 := Tryd.isAgg111
  z46 := Tryd.sizeOf111
  v46 := Tryd.zeroValue111
  t51 := Tryd.underlying123
  a51 := Tryd.isAgg123
  z51 := Tryd.sizeOf123
  v51 := Tryd.zeroValue123
  t53 := Tryd.underlying70
  a53 := Tryd.isAgg70
  z53 := Tryd.sizeOf70
  v53 := Tryd.zeroValue70
  t171 := Tryd.underlying112
  a171 := Tryd.isAgg112
  z171 := Tryd.sizeOf112
  v171 := Tryd.zeroValue112
  t173 := Tryd.underlying115
  a173 := Tryd.isAgg115
  z173 := Tryd.sizeOf115
  v173 := Tryd.zeroValue115
  t212 := Tryd.underlying127
  a212 := Tryd.isAgg127
  z212 := Tryd.sizeOf127
  v212 := Tryd.zeroValue127
  t213 := Tryd.underlying128
  a213 := Tryd.isAgg128
  z213 := Tryd.sizeOf128
  t232 := Tryd.underlying140
  a232 := Tryd.isAgg140
  z232 := Tryd.sizeOf140
  v232 := Tryd.zeroValue140
  t233 := Tryd.underlying141
  a233 := Tryd.isAgg141
  z233 := Tryd.sizeOf141
  v233 := Tryd.zeroValue141
  g17 := by kernel_rfl
  g18 := by kernel_rfl
  g19 := by kernel_rfl }
end Go.Proofs

set_option linter.unusedVariables false
set_option linter.unusedSimpArgs false
set_option maxRecDepth 100000
namespace Go.AV
theorem fspec_lib {P : Program} {f : FuncId} {x y : AV} (h : ∀ (R : RHeap) (w : World) (v : Value), RLe R w → x.den R v → Calls P f #[v] w fun e w' => ∃ u, e = .returned u ∧ y.den R u ∧ Go.RowKit.Below w.heap.size w w') : FSpec P f [x] y := fun R w vs hr hd => by
  match vs, hd.1 with
  | [v], _ =>
    have h1 := hd.2 0 v _ rfl rfl
    refine (h R w v hr h1).mono fun e w' ⟨u, h2, h3, h4⟩ => ⟨u, R, h2, h3, fun b o hb => ?_, fun _ _ => rfl, h4⟩
    have hb2 := hr b o hb
    rw [h4.block b (Array.getElem?_eq_some_iff.1 hb2).1]; exact hb2
theorem below_refl (w : World) : Go.RowKit.Below w.heap.size w w := ⟨rfl, rfl, rfl, Nat.le_refl _, fun _ _ => rfl⟩
end Go.AV
namespace Go.Proofs.YtdgoejkijpllpaaDoor
open Go Go.AV Go.M
attribute [local irreducible] OpW OpA OpS AWP FSpec ESpec GSpec OpE RetOk RetOkG RvDen Le Ev GuardIs SrcIs Int.tmod Int.tdiv IntKind.wrap
theorem itoaS_spec (n : Nat) (h : n < 100) : FSpec Tryd.prog 62 [AV.int n] (AV.str (decD n)) :=
  fspec_lib fun R w v hr hv => by
    rw [show v = Value.int .i64 n from hv]
    refine (Any.strconv_Itoa_small Tryd.itoaS n h w).mono ?_
    rintro e w' ⟨rfl, rfl⟩
    exact ⟨_, rfl, rfl, below_refl w'⟩
theorem placesText_spec (p : TPlaces) (hs : p.size ≤ 4194304) (hg : goodPlaces p = true) : FSpec Tryd.prog 38 [AV.agg p.cs] (AV.str (placesB p)) := by
  obtain ⟨hf1, hf2, hf3, hf4, _, _⟩ := good_facts hg
  have hgs := pg_groups hg
  have hcl : ∀ c ∈ p.Cuts, c.length ≤ 4194304 := fun c hc => by
    have h1 := sizeL_mem (f := fun x : Str => x.length) hc
    have h2 : sizeL (fun x : Str => x.length) p.Cuts + p.Groups.length ≤ 4194304 := hs
    omega
  have hpl := plB_len hg hcl
  obtain ⟨v, hv⟩ : ∃ v : Nat, p.Ver = (v : Int) := ⟨p.Ver.toNat, by omega⟩
  have hvl := decD_len (k := 7) (n := v) (by omega) (by decide)
  have hp0 : plB p 0 = decD v ++ [32] := by show decD p.Ver.toNat ++ [32] = _; rw [hv]; rfl
  have hcs : p.cs = [AV.int v, strs p.Cuts, ints p.Groups] := by unfold TPlaces.cs; rw [hv]
  rw [hcs]
  refine spec_of_awp Tryd.func38 rfl Tryd.ntmps38 rfl ?_
  refine awp_seq ?_
  refine awp_region ?_
  refine sq_box rfl rfl rfl rfl (ev_tmp rfl) ?_
  intro b1
  refine sq_plain rfl rfl rfl (w_assign rfl (ev_cs' (l := []) rfl)) ?_
  refine sq_nil ?_
  refine awp_seq ?_
  refine awp_region ?_
  refine sq_plain rfl rfl rfl (w_fldBn 0 rfl Tryd.underlying36 rfl Tryd.sizeOf3 (ev_tmp rfl) rfl) ?_
  refine sq_plain rfl rfl rfl (w_loadB1 0 rfl (ev_tmp rfl) rfl Tryd.isAgg3 rfl) ?_
  refine sq_plain rfl rfl rfl (w_call rfl Tryd.call62 rfl (itoaS_spec _ (by omega)) (evl_cons (ev_tmp rfl) evl_nil)) ?_
  refine sq_plain rfl rfl rfl (w_cat rfl (ev_tmp rfl) (ev_cs' (l := [32]) rfl) (by first | omega | (simp only [List.length_append, List.length_take, List.length_drop, List.length_cons, List.length_nil]; omega))) ?_
  refine sq_plain rfl rfl rfl (w_assign rfl (ev_tmp rfl)) ?_
  refine sq_nil ?_
  refine awp_seq ?_
  refine awp_seq ?_
  refine awp_region ?_
  refine sq_plain rfl rfl rfl (w_fldBn 2 rfl Tryd.underlying36 rfl Tryd.sizeOf31 (ev_tmp rfl) rfl) ?_
  refine sq_plain rfl rfl rfl (w_loadB1 0 rfl (ev_tmp rfl) rfl Tryd.isAgg31 rfl) ?_
  refine sq_plain rfl rfl rfl (w_llen rfl Tryd.underlying31 (ev_tmp rfl)) ?_
  refine sq_plain rfl rfl rfl (w_move rfl ev_ci) ?_
  refine sq_nil ?_
  refine awp_block ?_
  refine awp_loop_i [(1, _), (2, _), (11, _), (12, _)] _ (fun (i : Nat) => i ≤ p.Groups.length) (fun (i : Nat) => []) (fun (i : Nat) => [(3, AV.str (plB p i)), (13, AV.int i)]) (fun (i : Nat) => p.Groups.length - i) (0) ?_ (le_env ⟨congrArg (fun z => some (AV.str z)) hp0.symm, rfl, rfl, rfl, rfl, rfl, trivial⟩) ?_
  · exact Nat.zero_le _
  intro i hinv
  refine awp_seq ?_
  refine awp_region ?_
  refine sq_plain rfl rfl rfl (w_lss rfl (ev_tmp rfl) (ev_tmp rfl)) ?_
  refine sq_nil ?_
  refine awp_seq ?_
  refine awp_cond (ev_tmp rfl) ?_ ?_
  · intro h14
    have k14 := of_decide_eq_true h14; try simp only [List.length_map] at k14
    obtain ⟨x, hx⟩ := get_some (show i < p.Groups.length by omega)
    have hxg := hgs x (List.mem_of_getElem? hx)
    obtain ⟨g, rfl⟩ : ∃ g : Nat, x = (g : Int) := ⟨x.toNat, by omega⟩
    have hgl := decD_len (k := 7) (n := g) (by omega) (by decide)
    have hpi := hpl i
    refine awp_skip ?_
    refine awp_seq ?_
    refine awp_block ?_
    refine awp_seq ?_
    refine awp_region ?_
    refine sq_plain rfl rfl rfl (w_move rfl (ev_tmp rfl)) ?_
    refine sq_plain rfl rfl rfl (w_idxm rfl Tryd.underlying31 Tryd.sizeOf3 (ev_tmp rfl) (ev_tmp rfl) hx (by first | omega | ((try simp only [List.length_map, List.length_take, List.length_cons, List.length_nil, chunks_len, szR] at *); omega) | (have hc2 := hc; simp only [Bool.and_eq_true, Bool.or_eq_true, Bool.or_eq_false_iff, Bool.and_eq_false_iff, Bool.not_eq_true', Bool.not_eq_false', decide_eq_true_eq, decide_eq_false_iff_not, beq_iff_eq, bne_iff_ne, List.length_map, List.length_take] at hc2; omega))) ?_
    refine sq_plain rfl rfl rfl (w_loadE1 rfl (ev_tmp rfl) Tryd.isAgg3 rfl) ?_
    refine sq_plain rfl rfl rfl (w_assign rfl (ev_tmp rfl)) ?_
    refine sq_plain rfl rfl rfl (w_assign rfl (ev_tmp rfl)) ?_
    refine sq_nil ?_
    refine awp_seq ?_
    refine awp_seq ?_
    refine awp_region ?_
    refine sq_plain rfl rfl rfl (w_move rfl (ev_tmp rfl)) ?_
    refine sq_plain rfl rfl rfl (w_gtr rfl (ev_tmp rfl) ev_ci) ?_
    refine sq_nil ?_
    refine awp_cond (ev_tmp rfl) ?_ ?_
    · intro h19
      have k19 := of_decide_eq_true h19; try simp only [List.length_map] at k19
      have hi0 : 0 < i := by omega
      obtain ⟨c, hcx⟩ := get_some (show i - 1 < p.Cuts.length by omega)
      have hc4 := hcl c (List.mem_of_getElem? hcx)
      refine awp_region ?_
      refine sq_plain rfl rfl rfl (w_move rfl (ev_tmp rfl)) ?_
      refine sq_plain rfl rfl rfl (w_fldBn 1 rfl Tryd.underlying36 rfl Tryd.sizeOf30 (ev_tmp rfl) rfl) ?_
      refine sq_plain rfl rfl rfl (w_loadB1 0 rfl (ev_tmp rfl) rfl Tryd.isAgg30 rfl) ?_
      refine sq_plain rfl rfl rfl (w_move rfl (ev_tmp rfl)) ?_
      refine sq_plain rfl rfl rfl (w_subi rfl (ev_tmp rfl) ev_ci (by first | omega | ((try simp only [List.length_map, List.length_take, List.length_cons, List.length_nil, chunks_len, szR] at *); omega) | (have hc2 := hc; simp only [Bool.and_eq_true, Bool.or_eq_true, Bool.or_eq_false_iff, Bool.and_eq_false_iff, Bool.not_eq_true', Bool.not_eq_false', decide_eq_true_eq, decide_eq_false_iff_not, beq_iff_eq, bne_iff_ne, List.length_map, List.length_take] at hc2; omega))) ?_
      refine sq_plain rfl rfl rfl (w_idxm rfl Tryd.underlying30 Tryd.sizeOf9 (ev_tmp rfl) (ev_tmp rfl) hcx (by omega)) ?_
      refine sq_plain rfl rfl rfl (w_loadE1 rfl (ev_tmp rfl) Tryd.isAgg9 rfl) ?_
      refine sq_plain rfl rfl rfl (w_cat rfl (ev_cs' (l := [124]) rfl) (ev_tmp rfl) (by first | omega | (simp only [List.length_append, List.length_take, List.length_drop, List.length_cons, List.length_nil]; omega))) ?_
      refine sq_plain rfl rfl rfl (w_cat rfl (ev_tmp rfl) (ev_cs' (l := [124]) rfl) (by first | omega | (simp only [List.length_append, List.length_take, List.length_drop, List.length_cons, List.length_nil]; omega))) ?_
      refine sq_plain rfl rfl rfl (w_cat rfl (ev_tmp rfl) (ev_tmp rfl) (by first | omega | (simp only [List.length_append, List.length_take, List.length_drop, List.length_cons, List.length_nil]; omega))) ?_
      refine sq_plain rfl rfl rfl (w_assign rfl (ev_tmp rfl)) ?_
      refine sq_nil ?_
      refine awp_region ?_
      refine sq_plain rfl rfl rfl (w_move rfl (ev_tmp rfl)) ?_
      refine sq_plain rfl rfl rfl (w_move rfl (ev_tmp rfl)) ?_
      refine sq_plain rfl rfl rfl (w_call rfl Tryd.call62 rfl (itoaS_spec _ (by omega)) (evl_cons (ev_tmp rfl) evl_nil)) ?_
      refine sq_plain rfl rfl rfl (w_cat rfl (ev_tmp rfl) (ev_tmp rfl) (by first | omega | (simp only [List.length_append, List.length_take, List.length_drop, List.length_cons, List.length_nil]; omega))) ?_
      refine sq_plain rfl rfl rfl (w_assign rfl (ev_tmp rfl)) ?_
      refine sq_nil ?_
      refine awp_region ?_
      refine sq_plain rfl rfl rfl (w_addi rfl (ev_tmp rfl) ev_ci (by first | omega | ((try simp only [List.length_map, List.length_take, List.length_cons, List.length_nil, chunks_len, szR] at *); omega) | (have hc2 := hc; simp only [Bool.and_eq_true, Bool.or_eq_true, Bool.or_eq_false_iff, Bool.and_eq_false_iff, Bool.not_eq_true', Bool.not_eq_false', decide_eq_true_eq, decide_eq_false_iff_not, beq_iff_eq, bne_iff_ne, List.length_map, List.length_take] at hc2; omega))) ?_
      refine sq_plain rfl rfl rfl (w_move rfl (ev_tmp rfl)) ?_
      refine sq_nil ?_
      refine round_end i (i + 1) ?_ ?_ (le_env ⟨congrArg (fun z => some (AV.str z)) (by first | exact plB_next hx (by omega) hcx | exact plB_first hx (by omega)), rfl, rfl, rfl, rfl, rfl, trivial⟩)
      · omega
      · omega
    · intro h19
      have k19 := of_decide_eq_false h19; try simp only [List.length_map] at k19
      refine awp_skip ?_
      refine awp_region ?_
      refine sq_plain rfl rfl rfl (w_move rfl (ev_tmp rfl)) ?_
      refine sq_plain rfl rfl rfl (w_move rfl (ev_tmp rfl)) ?_
      refine sq_plain rfl rfl rfl (w_call rfl Tryd.call62 rfl (itoaS_spec _ (by omega)) (evl_cons (ev_tmp rfl) evl_nil)) ?_
      refine sq_plain rfl rfl rfl (w_cat rfl (ev_tmp rfl) (ev_tmp rfl) (by first | omega | (simp only [List.length_append, List.length_take, List.length_drop, List.length_cons, List.length_nil]; omega))) ?_
      refine sq_plain rfl rfl rfl (w_assign rfl (ev_tmp rfl)) ?_
      refine sq_nil ?_
      refine awp_region ?_
      refine sq_plain rfl rfl rfl (w_addi rfl (ev_tmp rfl) ev_ci (by first | omega | ((try simp only [List.length_map, List.length_take, List.length_cons, List.length_nil, chunks_len, szR] at *); omega) | (have hc2 := hc; simp only [Bool.and_eq_true, Bool.or_eq_true, Bool.or_eq_false_iff, Bool.and_eq_false_iff, Bool.not_eq_true', Bool.not_eq_false', decide_eq_true_eq, decide_eq_false_iff_not, beq_iff_eq, bne_iff_ne, List.length_map, List.length_take] at hc2; omega))) ?_
      refine sq_plain rfl rfl rfl (w_move rfl (ev_tmp rfl)) ?_
      refine sq_nil ?_
      refine round_end i (i + 1) ?_ ?_ (le_env ⟨congrArg (fun z => some (AV.str z)) (by first | exact plB_next hx (by omega) hcx | exact plB_first hx (by omega)), rfl, rfl, rfl, rfl, rfl, trivial⟩)
      · omega
      · omega
  · intro h14
    have k14 := of_decide_eq_false h14; try simp only [List.length_map] at k14
    have hin : i = p.Groups.length := by omega
    subst hin
    refine awp_exit ?_
    refine awp_seq ?_
    refine awp_region ?_
    refine sq_plain rfl rfl rfl (w_move rfl (ev_tmp rfl)) ?_
    refine sq_plain rfl rfl rfl (w_assign rfl (ev_tmp rfl)) ?_
    refine sq_nil ?_
    refine awp_ret ?_
    exact retR rfl (rv_tmp' rfl (by rfl))
theorem l20Text_spec (p : TPlaces) (hs : p.size ≤ 4194304) (hg : goodPlaces p = true) : FSpec Tryd.prog 34 [AV.agg p.cs] (AV.str (placesB p)) := by
  obtain ⟨hf1, hf2, hf3, hf4, _, _⟩ := good_facts hg
  have hgs := pg_groups hg
  have hcl : ∀ c ∈ p.Cuts, c.length ≤ 4194304 := fun c hc => by
    have h1 := sizeL_mem (f := fun x : Str => x.length) hc
    have h2 : sizeL (fun x : Str => x.length) p.Cuts + p.Groups.length ≤ 4194304 := hs
    omega
  have hpl := plB_len hg hcl
  obtain ⟨v, hv⟩ : ∃ v : Nat, p.Ver = (v : Int) := ⟨p.Ver.toNat, by omega⟩
  have hvl := decD_len (k := 7) (n := v) (by omega) (by decide)
  have hp0 : plB p 0 = decD v ++ [32] := by show decD p.Ver.toNat ++ [32] = _; rw [hv]; rfl
  have hcs : p.cs = [AV.int v, strs p.Cuts, ints p.Groups] := by unfold TPlaces.cs; rw [hv]
  rw [hcs]
  refine spec_of_awp Tryd.func34 rfl Tryd.ntmps34 rfl ?_
  refine awp_seq ?_
  refine awp_region ?_
  refine sq_box rfl rfl rfl rfl (ev_tmp rfl) ?_
  intro b1
  refine sq_plain rfl rfl rfl (w_assign rfl (ev_cs' (l := []) rfl)) ?_
  refine sq_nil ?_
  refine awp_seq ?_
  refine awp_region ?_
  refine sq_plain rfl rfl rfl (w_fldBn 0 rfl Tryd.underlying36 rfl Tryd.sizeOf3 (ev_tmp rfl) rfl) ?_
  refine sq_plain rfl rfl rfl (w_loadB1 0 rfl (ev_tmp rfl) rfl Tryd.isAgg3 rfl) ?_
  refine sq_plain rfl rfl rfl (w_call rfl Tryd.call57 rfl (l1Num_spec _ (by first | assumption | omega)) (evl_cons (ev_tmp rfl) evl_nil)) ?_
  refine sq_plain rfl rfl rfl (w_cat rfl (ev_tmp rfl) (ev_cs' (l := [32]) rfl) (by first | omega | (simp only [List.length_append, List.length_take, List.length_drop, List.length_cons, List.length_nil]; omega))) ?_
  refine sq_plain rfl rfl rfl (w_assign rfl (ev_tmp rfl)) ?_
  refine sq_nil ?_
  refine awp_seq ?_
  refine awp_seq ?_
  refine awp_region ?_
  refine sq_plain rfl rfl rfl (w_fldBn 2 rfl Tryd.underlying36 rfl Tryd.sizeOf31 (ev_tmp rfl) rfl) ?_
  refine sq_plain rfl rfl rfl (w_loadB1 0 rfl (ev_tmp rfl) rfl Tryd.isAgg31 rfl) ?_
  refine sq_plain rfl rfl rfl (w_llen rfl Tryd.underlying31 (ev_tmp rfl)) ?_
  refine sq_plain rfl rfl rfl (w_move rfl ev_ci) ?_
  refine sq_nil ?_
  refine awp_block ?_
  refine awp_loop_i [(1, _), (2, _), (11, _), (12, _)] _ (fun (i : Nat) => i ≤ p.Groups.length) (fun (i : Nat) => []) (fun (i : Nat) => [(3, AV.str (plB p i)), (13, AV.int i)]) (fun (i : Nat) => p.Groups.length - i) (0) ?_ (le_env ⟨congrArg (fun z => some (AV.str z)) hp0.symm, rfl, rfl, rfl, rfl, rfl, trivial⟩) ?_
  · exact Nat.zero_le _
  intro i hinv
  refine awp_seq ?_
  refine awp_region ?_
  refine sq_plain rfl rfl rfl (w_lss rfl (ev_tmp rfl) (ev_tmp rfl)) ?_
  refine sq_nil ?_
  refine awp_seq ?_
  refine awp_cond (ev_tmp rfl) ?_ ?_
  · intro h14
    have k14 := of_decide_eq_true h14; try simp only [List.length_map] at k14
    obtain ⟨x, hx⟩ := get_some (show i < p.Groups.length by omega)
    have hxg := hgs x (List.mem_of_getElem? hx)
    obtain ⟨g, rfl⟩ : ∃ g : Nat, x = (g : Int) := ⟨x.toNat, by omega⟩
    have hgl := decD_len (k := 7) (n := g) (by omega) (by decide)
    have hpi := hpl i
    refine awp_skip ?_
    refine awp_seq ?_
    refine awp_block ?_
    refine awp_seq ?_
    refine awp_region ?_
    refine sq_plain rfl rfl rfl (w_move rfl (ev_tmp rfl)) ?_
    refine sq_plain rfl rfl rfl (w_idxm rfl Tryd.underlying31 Tryd.sizeOf3 (ev_tmp rfl) (ev_tmp rfl) hx (by first | omega | ((try simp only [List.length_map, List.length_take, List.length_cons, List.length_nil, chunks_len, szR] at *); omega) | (have hc2 := hc; simp only [Bool.and_eq_true, Bool.or_eq_true, Bool.or_eq_false_iff, Bool.and_eq_false_iff, Bool.not_eq_true', Bool.not_eq_false', decide_eq_true_eq, decide_eq_false_iff_not, beq_iff_eq, bne_iff_ne, List.length_map, List.length_take] at hc2; omega))) ?_
    refine sq_plain rfl rfl rfl (w_loadE1 rfl (ev_tmp rfl) Tryd.isAgg3 rfl) ?_
    refine sq_plain rfl rfl rfl (w_assign rfl (ev_tmp rfl)) ?_
    refine sq_plain rfl rfl rfl (w_assign rfl (ev_tmp rfl)) ?_
    refine sq_nil ?_
    refine awp_seq ?_
    refine awp_seq ?_
    refine awp_region ?_
    refine sq_plain rfl rfl rfl (w_move rfl (ev_tmp rfl)) ?_
    refine sq_plain rfl rfl rfl (w_gtr rfl (ev_tmp rfl) ev_ci) ?_
    refine sq_nil ?_
    refine awp_cond (ev_tmp rfl) ?_ ?_
    · intro h19
      have k19 := of_decide_eq_true h19; try simp only [List.length_map] at k19
      have hi0 : 0 < i := by omega
      obtain ⟨c, hcx⟩ := get_some (show i - 1 < p.Cuts.length by omega)
      have hc4 := hcl c (List.mem_of_getElem? hcx)
      refine awp_region ?_
      refine sq_plain rfl rfl rfl (w_move rfl (ev_tmp rfl)) ?_
      refine sq_plain rfl rfl rfl (w_fldBn 1 rfl Tryd.underlying36 rfl Tryd.sizeOf30 (ev_tmp rfl) rfl) ?_
      refine sq_plain rfl rfl rfl (w_loadB1 0 rfl (ev_tmp rfl) rfl Tryd.isAgg30 rfl) ?_
      refine sq_plain rfl rfl rfl (w_move rfl (ev_tmp rfl)) ?_
      refine sq_plain rfl rfl rfl (w_subi rfl (ev_tmp rfl) ev_ci (by first | omega | ((try simp only [List.length_map, List.length_take, List.length_cons, List.length_nil, chunks_len, szR] at *); omega) | (have hc2 := hc; simp only [Bool.and_eq_true, Bool.or_eq_true, Bool.or_eq_false_iff, Bool.and_eq_false_iff, Bool.not_eq_true', Bool.not_eq_false', decide_eq_true_eq, decide_eq_false_iff_not, beq_iff_eq, bne_iff_ne, List.length_map, List.length_take] at hc2; omega))) ?_
      refine sq_plain rfl rfl rfl (w_idxm rfl Tryd.underlying30 Tryd.sizeOf9 (ev_tmp rfl) (ev_tmp rfl) hcx (by omega)) ?_
      refine sq_plain rfl rfl rfl (w_loadE1 rfl (ev_tmp rfl) Tryd.isAgg9 rfl) ?_
      refine sq_plain rfl rfl rfl (w_cat rfl (ev_cs' (l := [124]) rfl) (ev_tmp rfl) (by first | omega | (simp only [List.length_append, List.length_take, List.length_drop, List.length_cons, List.length_nil]; omega))) ?_
      refine sq_plain rfl rfl rfl (w_cat rfl (ev_tmp rfl) (ev_cs' (l := [124]) rfl) (by first | omega | (simp only [List.length_append, List.length_take, List.length_drop, List.length_cons, List.length_nil]; omega))) ?_
      refine sq_plain rfl rfl rfl (w_cat rfl (ev_tmp rfl) (ev_tmp rfl) (by first | omega | (simp only [List.length_append, List.length_take, List.length_drop, List.length_cons, List.length_nil]; omega))) ?_
      refine sq_plain rfl rfl rfl (w_assign rfl (ev_tmp rfl)) ?_
      refine sq_nil ?_
      refine awp_region ?_
      refine sq_plain rfl rfl rfl (w_move rfl (ev_tmp rfl)) ?_
      refine sq_plain rfl rfl rfl (w_move rfl (ev_tmp rfl)) ?_
      refine sq_plain rfl rfl rfl (w_call rfl Tryd.call57 rfl (l1Num_spec _ (by first | assumption | omega)) (evl_cons (ev_tmp rfl) evl_nil)) ?_
      refine sq_plain rfl rfl rfl (w_cat rfl (ev_tmp rfl) (ev_tmp rfl) (by first | omega | (simp only [List.length_append, List.length_take, List.length_drop, List.length_cons, List.length_nil]; omega))) ?_
      refine sq_plain rfl rfl rfl (w_assign rfl (ev_tmp rfl)) ?_
      refine sq_nil ?_
      refine awp_region ?_
      refine sq_plain rfl rfl rfl (w_addi rfl (ev_tmp rfl) ev_ci (by first | omega | ((try simp only [List.length_map, List.length_take, List.length_cons, List.length_nil, chunks_len, szR] at *); omega) | (have hc2 := hc; simp only [Bool.and_eq_true, Bool.or_eq_true, Bool.or_eq_false_iff, Bool.and_eq_false_iff, Bool.not_eq_true', Bool.not_eq_false', decide_eq_true_eq, decide_eq_false_iff_not, beq_iff_eq, bne_iff_ne, List.length_map, List.length_take] at hc2; omega))) ?_
      refine sq_plain rfl rfl rfl (w_move rfl (ev_tmp rfl)) ?_
      refine sq_nil ?_
      refine round_end i (i + 1) ?_ ?_ (le_env ⟨congrArg (fun z => some (AV.str z)) (by first | exact plB_next hx (by omega) hcx | exact plB_first hx (by omega)), rfl, rfl, rfl, rfl, rfl, trivial⟩)
      · omega
      · omega
    · intro h19
      have k19 := of_decide_eq_false h19; try simp only [List.length_map] at k19
      refine awp_skip ?_
      refine awp_region ?_
      refine sq_plain rfl rfl rfl (w_move rfl (ev_tmp rfl)) ?_
      refine sq_plain rfl rfl rfl (w_move rfl (ev_tmp rfl)) ?_
      refine sq_plain rfl rfl rfl (w_call rfl Tryd.call57 rfl (l1Num_spec _ (by first | assumption | omega)) (evl_cons (ev_tmp rfl) evl_nil)) ?_
      refine sq_plain rfl rfl rfl (w_cat rfl (ev_tmp rfl) (ev_tmp rfl) (by first | omega | (simp only [List.length_append, List.length_take, List.length_drop, List.length_cons, List.length_nil]; omega))) ?_
      refine sq_plain rfl rfl rfl (w_assign rfl (ev_tmp rfl)) ?_
      refine sq_nil ?_
      refine awp_region ?_
      refine sq_plain rfl rfl rfl (w_addi rfl (ev_tmp rfl) ev_ci (by first | omega | ((try simp only [List.length_map, List.length_take, List.length_cons, List.length_nil, chunks_len, szR] at *); omega) | (have hc2 := hc; simp only [Bool.and_eq_true, Bool.or_eq_true, Bool.or_eq_false_iff, Bool.and_eq_false_iff, Bool.not_eq_true', Bool.not_eq_false', decide_eq_true_eq, decide_eq_false_iff_not, beq_iff_eq, bne_iff_ne, List.length_map, List.length_take] at hc2; omega))) ?_
      refine sq_plain rfl rfl rfl (w_move rfl (ev_tmp rfl)) ?_
      refine sq_nil ?_
      refine round_end i (i + 1) ?_ ?_ (le_env ⟨congrArg (fun z => some (AV.str z)) (by first | exact plB_next hx (by omega) hcx | exact plB_first hx (by omega)), rfl, rfl, rfl, rfl, rfl, trivial⟩)
      · omega
      · omega
  · intro h14
    have k14 := of_decide_eq_false h14; try simp only [List.length_map] at k14
    have hin : i = p.Groups.length := by omega
    subst hin
    refine awp_exit ?_
    refine awp_seq ?_
    refine awp_region ?_
    refine sq_plain rfl rfl rfl (w_move rfl (ev_tmp rfl)) ?_
    refine sq_plain rfl rfl rfl (w_assign rfl (ev_tmp rfl)) ?_
    refine sq_nil ?_
    refine awp_ret ?_
    exact retR rfl (rv_tmp' rfl (by rfl))
end Go.Proofs.YtdgoejkijpllpaaDoor

set_option linter.unusedVariables false
set_option linter.unusedSimpArgs false
namespace Go.M
open Go.AV
def addP (p : Str) : List Str → List Str
  | [] => [p]
  | w :: ws => (p ++ w) :: ws
def splitC (c : UInt8) : Str → List Str
  | [] => [[]]
  | b :: s => if b = c then [] :: splitC c s else addP [b] (splitC c s)
theorem splitC_cons (c b : UInt8) (s : Str) : splitC c (b :: s) = if b = c then [] :: splitC c s else addP [b] (splitC c s) := rfl
theorem splitC_ne (c : UInt8) (s : Str) : splitC c s ≠ [] := by
  cases s with
  | nil => simp [splitC]
  | cons b s =>
    unfold splitC
    split
    · simp
    · cases splitC c s <;> simp [addP]
theorem addP_nil {ws : List Str} (h : ws ≠ []) : addP [] ws = ws := by
  cases ws with
  | nil => exact absurd rfl h
  | cons w ws => rfl
theorem addP_add (p q : Str) (ws : List Str) : addP p (addP q ws) = addP (p ++ q) ws := by
  cases ws <;> simp [addP]
theorem splitC_no {c : UInt8} : ∀ {s : Str}, c ∉ s → splitC c s = [s]
  | [], _ => rfl
  | b :: s, h => by
    unfold splitC
    rw [if_neg (fun e => h (by rw [e]; exact List.mem_cons_self)), splitC_no fun hm => h (List.mem_cons_of_mem _ hm)]; rfl
theorem splitC_app {c : UInt8} : ∀ {a : Str} (s : Str), c ∉ a → splitC c (a ++ c :: s) = a :: splitC c s
  | [], s, _ => by show splitC c (c :: s) = _; rw [splitC_cons, if_pos rfl]
  | b :: a, s, h => by
    show splitC c (b :: (a ++ c :: s)) = _
    rw [splitC_cons, if_neg (fun e => h (by rw [e]; exact List.mem_cons_self)), splitC_app s fun hm => h (List.mem_cons_of_mem _ hm)]; rfl
theorem idx_cons (b c : UInt8) (l : Str) : Lib.index (b :: l) [c] = if (c == b) = true then 0 else if (Lib.index l [c] == -1) = true then -1 else Lib.index l [c] + 1 := by
  conv => lhs; unfold Lib.index
  simp [List.isPrefixOf]
theorem split_rec (c : UInt8) : ∀ (s : Str) (k : Nat), k = s.count c → Lib.splitK [c] 0 k s = splitC c s
  | [], k, h => by subst h; rfl
  | b :: l, k, h => by
    unfold splitC
    by_cases hb : b = c
    · subst hb
      rw [List.count_cons_self] at h
      subst h
      rw [if_pos rfl]
      unfold Lib.splitK
      rw [idx_cons]
      simp
      exact split_rec b l _ rfl
    · rw [List.count_cons_of_ne hb] at h
      rw [if_neg hb]
      have ih := split_rec c l k h
      cases k with
      | zero =>
        rw [← ih]; rfl
      | succ k =>
        rw [← ih]
        unfold Lib.splitK
        have hcb : ¬ (c == b) = true := by simpa using fun e : c = b => hb e.symm
        rw [idx_cons, if_neg hcb]
        have hge := Lib.index_ge l [c]
        by_cases hi : Lib.index l [c] = -1
        · simp [hi, addP]
        · have h1 : (Lib.index l [c] == -1) = false := by simpa using hi
          have h2 : (Lib.index l [c] + 1 == -1) = false := by simp; omega
          have h3 : (Lib.index l [c] + 1).toNat = (Lib.index l [c]).toNat + 1 := by omega
          simp only [h1, h2, Bool.false_eq_true, if_false, h3, addP, Nat.add_zero, List.length_cons, List.length_nil, List.take_succ_cons, List.cons_append, List.nil_append]
          simp [h3]
def SpOk (c : UInt8) (s : Str) (acc : List Str) (fr i : Nat) : Prop := splitC c s = acc ++ addP ((s.drop fr).take (i - fr)) (splitC c (s.drop i)) ∧ fr ≤ i ∧ i ≤ s.length ∧ acc.length ≤ i
theorem spOk_start (c : UInt8) (s : Str) : SpOk c s [] 0 0 := ⟨by simp [addP_nil (splitC_ne c s)], Nat.le_refl _, Nat.zero_le _, Nat.le_refl _⟩
theorem spOk_hit {c : UInt8} {s : Str} {acc : List Str} {fr i : Nat} (h : SpOk c s acc fr i) (hx : s[i]? = some c) : SpOk c s (acc ++ [(s.take i).drop fr]) (i + 1) (i + 1) := by
  obtain ⟨h1, h2, h3, h4⟩ := h
  have hlt := (List.getElem?_eq_some_iff.1 hx).1
  have hd : s.drop i = c :: s.drop (i + 1) := by rw [List.drop_eq_getElem_cons hlt]; congr 1; exact (List.getElem?_eq_some_iff.1 hx).2
  refine ⟨?_, Nat.le_refl _, hlt, by simp; omega⟩
  rw [h1, hd]
  have e : splitC c (c :: s.drop (i + 1)) = [] :: splitC c (s.drop (i + 1)) := by rw [splitC_cons, if_pos rfl]
  rw [e, Nat.sub_self, List.take_zero, addP_nil (splitC_ne c _), List.append_assoc]
  show acc ++ (((s.drop fr).take (i - fr) ++ []) :: splitC c (s.drop (i + 1))) = _
  rw [List.append_nil, ← List.drop_take]; rfl
theorem spOk_miss {c b : UInt8} {s : Str} {acc : List Str} {fr i : Nat} (h : SpOk c s acc fr i) (hx : s[i]? = some b) (hb : b ≠ c) : SpOk c s acc fr (i + 1) := by
  obtain ⟨h1, h2, h3, h4⟩ := h
  have hlt := (List.getElem?_eq_some_iff.1 hx).1
  have hd : s.drop i = b :: s.drop (i + 1) := by rw [List.drop_eq_getElem_cons hlt]; congr 1; exact (List.getElem?_eq_some_iff.1 hx).2
  refine ⟨?_, by omega, hlt, by omega⟩
  rw [h1, hd]
  have e : splitC c (b :: s.drop (i + 1)) = addP [b] (splitC c (s.drop (i + 1))) := by rw [splitC_cons, if_neg hb]
  rw [e, addP_add]
  congr 2
  rw [show i + 1 - fr = (i - fr) + 1 by omega, List.take_add_one, List.getElem?_drop, show fr + (i - fr) = i by omega, hx]; rfl
theorem spOk_end {c : UInt8} {s : Str} {acc : List Str} {fr i : Nat} (h : SpOk c s acc fr i) (hi : s.length ≤ i) : splitC c s = acc ++ [s.drop fr] := by
  obtain ⟨h1, h2, h3, h4⟩ := h
  rw [h1, List.drop_of_length_le hi, List.take_of_length_le (by rw [List.length_drop]; omega)]
  simp [splitC, addP]
def isDig (b : UInt8) : Bool := decide (48 ≤ b.toNat) && decide (b.toNat ≤ 57)
theorem decD_dig (n : Nat) : ∀ b ∈ decD n, 48 ≤ b.toNat ∧ b.toNat ≤ 57 := by
  induction n using Nat.strongRecOn with
  | ind n ih =>
    intro b hb
    by_cases h : n < 10
    · rw [decD_small h] at hb
      rw [List.mem_singleton.1 hb]
      have : (UInt8.ofNat (48 + n)).toNat = (48 + n) % 256 := by simp
      omega
    · rw [decD_big h] at hb
      rcases List.mem_append.1 hb with hb | hb
      · exact ih (n / 10) (by omega) b hb
      · rw [List.mem_singleton.1 hb]
        have : (UInt8.ofNat (48 + n % 10)).toNat = (48 + n % 10) % 256 := by simp
        omega
theorem decD_head {n : Nat} (hn : 0 < n) : ∃ d r, decD n = d :: r ∧ d.toNat ≠ 48 := by
  induction n using Nat.strongRecOn with
  | ind n ih =>
    by_cases h : n < 10
    · refine ⟨_, _, decD_small h, ?_⟩
      have : (UInt8.ofNat (48 + n)).toNat = (48 + n) % 256 := by simp
      omega
    · obtain ⟨d, r, e, hd⟩ := ih (n / 10) (by omega) (by omega)
      exact ⟨d, r ++ [UInt8.ofNat (48 + n % 10)], by rw [decD_big h, e]; rfl, hd⟩
theorem decD_ne (n : Nat) : decD n ≠ [] := by
  by_cases h : n < 10
  · rw [decD_small h]; simp
  · rw [decD_big h]; simp
theorem pu_snoc {d : UInt8} (hd : 48 ≤ d.toNat ∧ d.toNat ≤ 57) : ∀ (l : Str) (acc u : Nat), Lib.parseUint10 acc l = .ok u → u < 100000000000000000 → Lib.parseUint10 acc (l ++ [d]) = .ok (u * 10 + (d.toNat - 48))
  | [], acc, u, h, hu => by
    simp only [Lib.parseUint10] at h
    injection h with h
    subst h
    simp only [List.nil_append, Lib.parseUint10]
    rw [if_pos hd, if_neg (by omega), if_neg (by omega)]
  | c :: r, acc, u, h, hu => by
    simp only [Lib.parseUint10] at h
    show Lib.parseUint10 acc (c :: (r ++ [d])) = _
    simp only [Lib.parseUint10]
    split at h
    · rename_i h1
      rw [if_pos h1]
      split at h
      · cases h
      · rename_i h2
        rw [if_neg h2]
        split at h
        · cases h
        · rename_i h3
          rw [if_neg h3]
          exact pu_snoc hd r _ u h hu
    · cases h
theorem pu_dec (n : Nat) : n ≤ 1000000000000 → Lib.parseUint10 0 (decD n) = .ok n := by
  induction n using Nat.strongRecOn with
  | ind n ih =>
    intro hn
    by_cases h : n < 10
    · rw [decD_small h]
      have : (UInt8.ofNat (48 + n)).toNat = 48 + n := by simp; omega
      simp only [Lib.parseUint10, this]
      rw [if_pos (by omega), if_neg (by omega), if_neg (by omega)]
      congr 1; omega
    · rw [decD_big h]
      have h8 : (UInt8.ofNat (48 + n % 10)).toNat = 48 + n % 10 := by simp; omega
      rw [pu_snoc (by omega) _ 0 (n / 10) (ih (n / 10) (by omega) (by omega)) (by omega), h8]
      congr 1; omega
theorem atoi_dec {n : Nat} (h : n ≤ 1000000000000) : Lib.atoiAll (decD n) = .ok (n : Int) := by
  have hp := pu_dec n h
  have hdg := decD_dig n
  cases hl : decD n with
  | nil => exact absurd hl (decD_ne n)
  | cons c r =>
    rw [hl] at hp hdg
    have hc := hdg c List.mem_cons_self
    unfold Lib.atoiAll Lib.parseMag
    dsimp only
    rw [if_neg (show ¬ (c.toNat = 43 ∨ c.toNat = 45) by omega), if_neg (by simp), hp]
    dsimp only
    rw [if_neg (by omega), if_neg (by omega), if_neg (by omega)]
def atoiV (s : Str) : Int := match Lib.atoiAll s with | .ok v => v | .range => Lib.atoiSat s | _ => 0
def atoiBad (s : Str) : Bool := match Lib.atoiAll s with | .ok _ => false | _ => true
def readI (s : Str) (lo hi : Int) : Int × Bool := if ((atoiBad s || !within (atoiV s) lo hi) || (itoaD (atoiV s) != s)) = true then (0, false) else (atoiV s, true)
theorem readI_dec {n : Nat} {lo hi : Int} (h : n ≤ 1000000000000) (hw : within n lo hi = true) : readI (decD n) lo hi = ((n : Int), true) := by
  have e := atoi_dec h
  have e1 : atoiV (decD n) = n := by unfold atoiV; rw [e]
  have e2 : atoiBad (decD n) = false := by unfold atoiBad; rw [e]
  unfold readI
  rw [e1, e2, hw, itoa_nat, if_neg (by simp)]
def rdFrom (n : Nat) : Str → Int
  | [] => n
  | b :: s => if isDig b = true then rdFrom (10 * n + (b.toNat - 48)) s else -1
def l1BadB (s : Str) : Bool := !within s.length 1 6 || ((s.head?.map fun b => b == 48).getD false && decide ((1 : Int) < (s.length : Int)))
def l1R (s : Str) : Int := if l1BadB s = true then -1 else rdFrom 0 s
theorem rd_snoc {d : UInt8} (hd : 48 ≤ d.toNat ∧ d.toNat ≤ 57) : ∀ (s : Str) (m v : Nat), rdFrom m s = (v : Int) → rdFrom m (s ++ [d]) = ((10 * v + (d.toNat - 48) : Nat) : Int)
  | [], m, v, h => by
    simp only [rdFrom] at h
    have : m = v := by omega
    subst this
    simp only [List.nil_append, rdFrom]
    rw [if_pos (by unfold isDig; simp; omega)]
  | b :: s, m, v, h => by
    simp only [rdFrom] at h
    show rdFrom m (b :: (s ++ [d])) = _
    simp only [rdFrom]
    split at h
    · rename_i h1
      rw [if_pos h1]
      exact rd_snoc hd s _ v h
    · exfalso; omega
theorem rd_dec (n : Nat) : rdFrom 0 (decD n) = (n : Int) := by
  induction n using Nat.strongRecOn with
  | ind n ih =>
    by_cases h : n < 10
    · rw [decD_small h]
      have h8 : (UInt8.ofNat (48 + n)).toNat = 48 + n := by simp; omega
      simp only [rdFrom, h8]
      rw [if_pos (by unfold isDig; rw [h8]; simp; omega)]
      congr 1; omega
    · rw [decD_big h]
      have h8 : (UInt8.ofNat (48 + n % 10)).toNat = 48 + n % 10 := by simp; omega
      rw [rd_snoc (by omega) _ 0 (n / 10) (ih (n / 10) (by omega)), h8]
      congr 1; omega
theorem l1R_dec {n : Nat} (h : n ≤ 999999) : l1R (decD n) = n := by
  have hl := decD_len (k := 6) (n := n) (by omega) (by decide)
  have hne := decD_ne n
  have hpos : 1 ≤ (decD n).length := by
    cases hd : decD n with
    | nil => exact absurd hd hne
    | cons b r => simp
  unfold l1R
  rw [if_neg, rd_dec]
  unfold l1BadB within
  simp only [Bool.or_eq_true, Bool.not_eq_true', Bool.and_eq_true, not_or, not_and]
  refine ⟨by simp; omega, fun hh hlt => ?_⟩
  by_cases hz : n = 0
  · subst hz
    have : (decD 0).length = 1 := by rw [decD_small (by decide)]; rfl
    simp at hlt; omega
  · obtain ⟨d, r, e, hd⟩ := decD_head (n := n) (by omega)
    rw [e] at hh
    simp at hh
    rw [hh] at hd
    exact hd rfl
end Go.M

set_option linter.unusedVariables false
set_option linter.unusedSimpArgs false
namespace Go.M
open Go.AV
theorem l3_no {s o : Str} (h : l3Bytes s o = true) {b : UInt8} (hn : (lowDig b || o.any fun d => ((b.toNat : Int) == (d.toNat : Int))) = false) : b ∉ s := fun hb => by
  unfold l3Bytes at h
  have := List.all_eq_true.1 h b hb
  rw [hn] at this; cases this
theorem splitC_len {c : UInt8} : ∀ {s w : Str}, w ∈ splitC c s → w.length ≤ s.length
  | [], w, h => by simp [splitC] at h; subst h; exact Nat.le_refl _
  | b :: s, w, h => by
    rw [splitC_cons] at h
    split at h
    · rcases List.mem_cons.1 h with rfl | h
      · exact Nat.zero_le _
      · have := splitC_len h; simp only [List.length_cons]; omega
    · cases hs : splitC c s with
      | nil => exact absurd hs (splitC_ne c s)
      | cons x xs =>
        rw [hs] at h
        rcases List.mem_cons.1 h with rfl | h
        · have := splitC_len (c := c) (s := s) (w := x) (by rw [hs]; exact List.mem_cons_self)
          simp only [List.cons_append, List.nil_append, List.length_cons]; omega
        · have := splitC_len (c := c) (s := s) (w := w) (by rw [hs]; exact List.mem_cons_of_mem _ h)
          simp only [List.length_cons]; omega
theorem idx_at {c : UInt8} : ∀ {a : Str} (s : Str), c ∉ a → Lib.index (a ++ c :: s) [c] = (a.length : Int)
  | [], s, _ => by show Lib.index (c :: s) [c] = _; rw [idx_cons, if_pos (by simp)]; rfl
  | b :: a, s, h => by
    show Lib.index (b :: (a ++ c :: s)) [c] = _
    rw [idx_cons, if_neg (by simpa using fun e : c = b => h (by rw [e]; exact List.mem_cons_self)), idx_at s fun hm => h (List.mem_cons_of_mem _ hm), if_neg (by simp)]
    simp
theorem cut_at {c : UInt8} {a : Str} (s : Str) (h : c ∉ a) : Lib.cut (a ++ c :: s) [c] = (a, s, true) := by
  unfold Lib.cut
  rw [idx_at s h, if_pos (by omega)]
  simp
theorem cutL_len (s : Str) (c : UInt8) : (Lib.cut s [c]).1.length + (Lib.cut s [c]).2.1.length ≤ s.length := by
  unfold Lib.cut
  split
  · dsimp only; rw [List.length_take, List.length_drop]; simp; omega
  · simp
theorem dec_no {n : Nat} {c : UInt8} (h : c.toNat < 48 ∨ 57 < c.toNat) : c ∉ decD n := fun hm => by
  have := decD_dig n c hm; omega
structure GoodC (c : TFeedItem) : Prop where
  time : ∃ t : Nat, c.Time = (t : Int) ∧ 1 ≤ t ∧ t ≤ 100000
  group : ∃ g : Nat, c.Group = (g : Int) ∧ g ≤ 3
  key : 1 ≤ c.Key.length ∧ (32 : UInt8) ∉ c.Key ∧ (61 : UInt8) ∉ c.Key
  val : (32 : UInt8) ∉ c.Val ∧ (61 : UInt8) ∉ c.Val
  gone : c.Gone = true → c.Val = []
theorem not_app {c : UInt8} {a b : Str} (ha : c ∉ a) (hb : c ∉ b) : c ∉ a ++ b := fun h => (List.mem_append.1 h).elim ha hb
end Go.M

set_option linter.unusedVariables false
set_option linter.unusedSimpArgs false
namespace Go.AV
open Go.RowKit (Below)
def AV.errB (b : Bool) : AV := ⟨fun _ v => (b = false → v = .nilIface) ∧ (b = true → ∃ t p, v = .iface t p), fun _ h => h⟩
section
variable {P : Program} {G : Nat → Prop} {n : Nat} {own : List Own} {o : Oper} {E : EnvF}
theorem w_errneq {b : Bool} {t : TypeId} {p : Operand} {ty : TypeId} (ho : o.op = .binOp .neq t p (.const .nilIface) ty) (ht : P.underlying t = some (.interface (P.methodsAt t))) (hp : Ev E p (AV.errB b)) : OpW P G n own o E (AV.bool b) := opW_val fun R a w _ he => by
  have h1 : (b = false → a.eval p = .nilIface) ∧ (b = true → ∃ t p', a.eval p = .iface t p') := ev_use hp (by simp [ho, Op.operands]) he
  have h3 : a.eval (.const .nilIface) = .nilIface := rfl
  cases b with
  | false =>
    have h2 := h1.1 rfl
    exact ⟨.bool false, by simp only [execOp, ho, h2, h3, eqGuard_nil_constR, Sem.run_bind, Sem.run_pure, Result.andThen_ok, run_neq_nil_nil w t ht], rfl⟩
  | true =>
    obtain ⟨u, x, h2⟩ := h1.2 rfl
    exact ⟨.bool true, by simp only [execOp, ho, h2, h3, eqGuard_at_iface, Sem.run_bind, Sem.run_pure, Result.andThen_ok, run_neq_held_nil w t u x ht], rfl⟩
theorem w_callT {f : FuncId} {args : Array Operand} {tys : Array TypeId} {ps : List Operand} {x : AV} {xs : List AV} {y : AV} {T T' : World → Prop} (i : Nat) (hi : own[i]? = some (.tab T')) (ho : o.op = .call { callee := .value (.func f), args := args, argTypes := tys }) (hc : ∀ (vs : Array Value) (w : World), (callFunc f vs).run P w = .ok (.enter f vs) w)
    (hps : args.toList = ps) (hs : FSpec P f (AV.wt T x :: xs) y) (he : EvL E ps (x :: xs)) (hT : ∀ w, T' w → T w) : OpW P G n own o E y := fun w0 R0 R a w hcore _ hen => by
  have hd := evl_use hen he fun p hp => by simp [ho, Op.operands, Call.operands]; right; rw [← hps] at hp; exact Array.mem_toList_iff.1 hp
  have htab : ∀ w' : World, RLe R w' → T w' := fun w' hw' => hT w' ((hcore.owned _ (List.mem_of_getElem? hi)) w' hw')
  have hd2 : DenV R (ps.map a.eval) (AV.wt T x :: xs) := ⟨hd.1, fun j v z hv hz => by
    cases j with
    | zero =>
      simp at hz; subst hz
      exact ⟨hd.2 0 v x hv rfl, htab⟩
    | succ j => exact hd.2 (j + 1) v z hv hz⟩
  have hrun : (execOp a.eval o).run P w = .ok (.enter f (ps.map a.eval).toArray) w := by
    have hargs : args.map a.eval = (ps.map a.eval).toArray := by rw [← hps]; cases args; simp
    simp only [execOp, ho, resolve, hargs, show a.eval (.func f) = .func (.func f) #[] #[] from rfl]
    simp [Deferred.ofValue, invoke, hc]
  unfold Oper.wp
  rw [hrun, Oper.upon_enter]
  refine (hs R w _ hcore.rle hd2).mono fun e w' ⟨v, R', e1, e2, e3, e4, e5⟩ => ?_
  subst e1
  exact ⟨v, R', rfl, hcore.step e5 e3 e4, rsub_of hcore.rle e4, e2⟩
theorem fspec_wtL {f : FuncId} {x y : AV} {xs : List AV} {T : World → Prop} (h : ∀ (R : RHeap) (w : World) (v : Value) (vs : List Value), RLe R w → x.den R v → DenV R (v :: vs) (x :: xs) → T w → Calls P f (v :: vs).toArray w fun e w' => ∃ u, e = .returned u ∧ y.den R u ∧ Below w.heap.size w w') : FSpec P f (AV.wt T x :: xs) y := fun R w vs hr hd => by
  match vs, hd.1 with
  | v :: vs, _ =>
    have h1 := hd.2 0 v _ rfl rfl
    have hd2 : DenV R (v :: vs) (x :: xs) := ⟨hd.1, fun j u z hu hz => by
      cases j with
      | zero => simp at hz hu; subst hz; subst hu; exact h1.1
      | succ j => exact hd.2 (j + 1) u z hu hz⟩
    refine (h R w v vs hr h1.1 hd2 (h1.2 w hr)).mono fun e w' ⟨u, h2, h3, h4⟩ => ⟨u, R, h2, h3, fun b o hb => ?_, fun _ _ => rfl, h4⟩
    have hb2 := hr b o hb
    rw [h4.block b (Array.getElem?_eq_some_iff.1 hb2).1]; exact hb2
theorem below_same (w : World) : Below w.heap.size w w := ⟨rfl, rfl, rfl, Nat.le_refl _, fun _ _ => rfl⟩
theorem below_drew (w : World) (k : Nat) : Below w.heap.size w (w.drewN k) := ⟨rfl, rfl, rfl, Nat.le_refl _, fun _ _ => rfl⟩
theorem below_bytes (w : World) (e : TypeId) (t : ByteArray) : Below w.heap.size w (Lib.bytesWorld w e t) :=
  ⟨rfl, rfl, rfl, by rw [Lib.bytesWorld_size]; exact Nat.le_succ _, fun b hb => Lib.bytesWorld_at_old w e t b hb⟩
theorem denC_strs {R : RHeap} (ps : List ByteArray) : DenC R (ps.map Value.string) (((ps.map (·.data.toList)).map fun s : List UInt8 => [AV.str s]).flatten) := by
  have e : ((ps.map (·.data.toList)).map fun s : List UInt8 => [AV.str s]).flatten = (ps.map Value.string).map AV.is := by
    induction ps with
    | nil => rfl
    | cons b ps ih =>
      simp only [List.map_cons, List.flatten_cons, ih, List.cons_append, List.nil_append]
      rfl
  rw [e]
  refine ⟨by simp, fun i v x hv hx => ?_⟩
  rw [List.getElem?_map, hv] at hx
  injection hx with hx; subst hx
  obtain ⟨b, _, rfl⟩ := List.mem_map.1 (List.mem_of_getElem? hv)
  exact ⟨rfl, rfl⟩
theorem pieces_own {f : FuncId} {T : World → Prop} {s : List UInt8} {c : UInt8} {t : TypeId} {L : List (List UInt8)} {ps : List ByteArray} (hL : ps.map (·.data.toList) = L) (hlen : ps.length ≤ maxLen)
    (h : ∀ w : World, T w → Calls P f #[.string ⟨s.toArray⟩, .string ⟨#[c]⟩] w fun e w' => e = .returned (.slice (some ⟨w.heap.size, 0, none⟩) ps.length ps.length) ∧ w' = w.alloc (.cells (ps.map Value.string).toArray t)) :
    GSpec P f [AV.wt T (AV.str s), AV.str [c]] [] (fun _ : Value => True) (fun v => [.arr v t 1 (L.map fun x => [AV.str x])]) (fun v => AV.is v) := fun R w vs hr hd _ _ => by
  match vs, hd.1 with
  | [u, v], _ =>
    have h1 := hd.2 0 u _ rfl rfl
    have h2 := hd.2 1 v _ rfl rfl
    rw [show u = Value.string ⟨s.toArray⟩ from h1.1, show v = Value.string ⟨#[c]⟩ from h2]
    refine (h w (h1.2 w hr)).mono fun e w' ⟨e1, e2⟩ => ?_
    subst e1; subst e2; subst hL
    refine ⟨_, _, R, trivial, rfl, rfl, ?_⟩
    exact core_arr_new (core_start hr) (by simp) (Nat.le_refl _) hlen (by simp) (fun x hx => by
      obtain ⟨b, _, rfl⟩ := List.mem_map.1 hx; rfl) (by
      have h9 := denC_strs (R := R) ps
      have e9 : ((ps.map Value.string).toArray.toList.take (ps.length * 1)) = ps.map Value.string := by rw [Nat.mul_one]; exact List.take_of_length_le (by simp)
      rw [e9]; exact h9)
theorem handed_shaped {H : Type} {enc : TypeId × Value → H} {a : Assume} {C : Checked} {os : Os} {f : FuncId} {fn : Func} {s : ChangeSpec} {conds : List PathCond} {apart fresh handsOn again : Bool} {X : World → Array Value → Prop}
    (hX : ∀ (w w' : World) (args : Array Value), w.heap = w'.heap → X w args → X w' args)
    (own : ownKnob C.prog.godebug = none) (started : os.Started) (noInit : C.prog.inits.idxOf? f = none) (hfn : C.prog.funcs[f]? = some fn)
    (witness : ∃ (w : World) (tape : Tape) (i : Input), w.os = os ∧ (w.forCall tape i).Shaped C.prog ∧ i.vars = [] ∧ Input.okWide C.prog (w.forCall tape i) .any w.heap.size f i ∧
      ((s.pre enc C.prog fn conds apart (w.forCall tape i).memory i.args ∧ X (w.forCall tape i).memory i.args) ∧ sizedMet enc C.prog fn (OpenSpec.ofChange s) apart (w.forCall tape i).memory i.args) ∧ a.holds C.prog (lone (Frame.enter C.prog f i.args .normal) [] (w.forCall tape i)))
    (contract : ∀ (W : World) (base : Nat) (args : Array Value) (ds gs : List (DataW H)) (before : List MemPlace),
      (∀ (j : Nat) t v, fn.params[j]? = some t → args[j]? = some v → Value.okWide C.prog W .any base t v) →
      DataW.Whole enc C.prog fn.params.toList s.vars apart W args.toList ds gs before →
      W.ShapedOpen C.prog →
      (DataW.weightsEach C.prog (fn.params.toList ++ s.plain.varTypes C.prog) (ds ++ gs)).all (· ≤ reachBytes) = true → X W args →
      a.holds C.prog (lone (Frame.enter C.prog f args .normal) [] W) →
      Calls C.prog f args W fun e W' => ∃ v, e = .returned v ∧ s.post enc C.prog fn apart fresh handsOn again W args v W') :
    ReturnsInHanded a C os f .any (fun w args => (s.pre enc C.prog fn conds apart w args ∧ X w args) ∧ sizedMet enc C.prog fn (OpenSpec.ofChange s) apart w args) (s.post enc C.prog fn apart fresh handsOn again) := by
  refine returnsInHanded_of_calls own started noInit witness ?_
  intro w tape i _ hsh _ hok hpre hholds
  obtain ⟨_, _, _, fn', hfn', _, _, _, _, hval⟩ := hok
  have e : fn' = fn := Option.some.inj (hfn'.symm.trans hfn)
  subst e
  obtain ⟨⟨⟨ds, gs, before, hw, hc⟩, hx⟩, hz⟩ := hpre
  have hw' := DataW.Whole.of_heap (w' := w.forCall tape i) (by rfl) hw
  refine (contract (w.forCall tape i) w.heap.size i.args ds gs before hval hw' hsh (hz.weights hw) (hX _ _ _ (by rfl) hx) hholds).mono fun e W' ⟨v, he, hp⟩ => ?_
  subst he
  exact ChangeSpec.post_blind hp
theorem cell_heap {W w' : World} {g : Nat} {v : Value} (h : W.cell? ⟨g, 0, none⟩ = some v) (hw : RLe (heapR W) w') : w'.cell? ⟨g, 0, none⟩ = some v := by
  unfold World.cell? at h ⊢
  dsimp only at h ⊢
  cases ho : W.heap[g]? with
  | none => rw [ho] at h; simp at h
  | some o => rw [ho] at h; rw [hw g o ho]; exact h
theorem var_heap {P : Program} {W w' : World} {name : String} {vs : Array Value} (h : W.var? P name = some vs) (hw : RLe (heapR W) w') : w'.var? P name = some vs := by
  unfold World.var? at h ⊢
  cases hg : P.globalNamed name with
  | none => rw [hg] at h; cases h
  | some g =>
    rw [hg] at h
    simp only [Option.bind_some] at h ⊢
    cases ho : W.heap[g]? with
    | none => rw [ho] at h; cases h
    | some o =>
      rw [ho] at h
      rw [hw g o ho]
      exact h
end
end Go.AV

namespace Go.Proofs
open Go.Shelf
set_option linter.unusedVariables false
def Tryd.split_ren : Go.Shelf.Ren := ⟨fun | 146 => 43 | 221 => 69 | 268 => 84 | 138 => 85 | 143 => 86 | 195 => 97 | 197 => 98 | 218 => 99 | 219 => 89 | 260 => 113 | 217 => 105 | 225 => 106 | 224 => 107 | 267 => 108 | 266 => 117 | 314 => 118 | n => n, fun | 9 => 9 | 31 => 30 | 3 => 3 | 4 => 4 | 0 => 0 | 105 => 103 | 21 => 21 | 5 => 5 | 46 => 111 | 119 => 130 | 139 => 133 | 138 => 132 | 146 => 124 | 51 => 123 | n => n, fun | 1 => 0 | 3 => 4 | 4 => 5 | n => n⟩
theorem Tryd.split : Go.Proofs.Lays.n146 Tryd.prog Tryd.split_ren := {
  mixed := by kernel_rfl
  f138 := Tryd.func85.trans (congrArg some (by kernel_rfl))
  f143 := Tryd.func86.trans (congrArg some (by kernel_rfl))
  f146 := Tryd.func43.trans (congrArg some (by kernel_rfl))
  f195 := Tryd.func97.trans (congrArg some (by kernel_rfl))
  f197 := Tryd.func98.trans (congrArg some (by kernel_rfl))
  f217 := Tryd.func105.trans (congrArg some (by kernel_rfl))
  f218 := Tryd.func99.trans (congrArg some (by kernel_rfl))
  f219 := Tryd.func89.trans (congrArg some (by kernel_rfl))
  f221 := Tryd.func69.trans (congrArg some (by kernel_rfl))
  f224 := Tryd.func107.trans (congrArg some (by kernel_rfl))
  f225 := Tryd.func106.trans (congrArg some (by kernel_rfl))
  f260 := Tryd.func113.trans (congrArg some (by kernel_rfl))
  f266 := Tryd.func117.trans (congrArg some (by kernel_rfl))
  f267 := Tryd.func108.trans (congrArg some (by kernel_rfl))
  f268 := Tryd.func84.trans (congrArg some (by kernel_rfl))
  f314 := Tryd.func118.trans (congrArg some (by kernel_rfl))
  t0 := Tryd.underlying0
  a0 := Tryd.isAgg0
  z0 := Tryd.sizeOf0
  v0 := Tryd.zeroValue0
  t3 := Tryd.underlying3
  a3 := Tryd.isAgg3
  z3 := Tryd.sizeOf3
  v3 := Tryd.zeroValue3
  t4 := Tryd.underlying4
  a4 := Tryd.isAgg4
  z4 := Tryd.sizeOf4
  v4 := Tryd.zeroValue4
  t5 := Tryd.underlying5
  a5 := Tryd.isAgg5
  z5 := Tryd.sizeOf5
  v5 := Tryd.zeroValue5
  t9 := Tryd.underlying9
  a9 := Tryd.isAgg9
  z9 := Tryd.sizeOf9
  v9 := Tryd.zeroValue9
  t21 := Tryd.underlying21
  a21 := Tryd.isAgg21
  z21 := Tryd.sizeOf21
  v21 := Tryd.zeroValue21
  t31 := Tryd.underlying30
  a31 := Tryd.isAgg30
  z31 := Tryd.sizeOf30
  v31 := Tryd.zeroValue30
  t46 := Tryd.underlying111
  a46 := Tryd.isAgg111
  z46 := Tryd.sizeOf111
  v46 := Tryd.zeroValue111
  t51 := Tryd.underlying123
  a51 := Tryd.isAgg123
  z51 := Tryd.sizeOf123
  v51 := Tryd.zeroValue123
  t105 := Tryd.underlying103
  a105 := Tryd.isAgg103
  z105 := Tryd.sizeOf103
  v105 := Tryd.zeroValue103
  t119 := Tryd.underlying130
  a119 := Tryd.isAgg130
  z119 := Tryd.sizeOf130
  t138 := Tryd.underlying132
  a138 := Tryd.isAgg132
  z138 := Tryd.sizeOf132
  v138 := Tryd.zeroValue132
  t139 := Tryd.underlying133
  a139 := Tryd.isAgg133
  z139 := Tryd.sizeOf133
  v139 := Tryd.zeroValue133
  t146 := Tryd.underlying124
  a146 := Tryd.isAgg124
  z146 := Tryd.sizeOf124
  v146 := Tryd.zeroValue124
  g1 := by kernel_rfl
  g3 := by kernel_rfl
  g4 := by kernel_rfl }
def Tryd.cut_ren : Go.Shelf.Ren := ⟨fun | 145 => 45 | 220 => 71 | 219 => 89 | 217 => 105 | 225 => 106 | 224 => 107 | 267 => 108 | 266 => 117 | 314 => 118 | n => n, fun | 9 => 9 | 4 => 4 | 59 => 66 | 3 => 3 | 5 => 5 | 46 => 111 | 146 => 124 | 51 => 123 | n => n, fun | 1 => 0 | n => n⟩
theorem Tryd.cut : Go.Proofs.Lays.n145 Tryd.prog Tryd.cut_ren := {
  mixed := by kernel_rfl
  f145 := Tryd.func45.trans (congrArg some (by kernel_rfl))
  f217 := Tryd.func105.trans (congrArg some (by kernel_rfl))
  f219 := Tryd.func89.trans (congrArg some (by kernel_rfl))
  f220 := Tryd.func71.trans (congrArg some (by kernel_rfl))
  f224 := Tryd.func107.trans (congrArg some (by kernel_rfl))
  f225 := Tryd.func106.trans (congrArg some (by kernel_rfl))
  f266 := Tryd.func117.trans (congrArg some (by kernel_rfl))
  f267 := Tryd.func108.trans (congrArg some (by kernel_rfl))
  f314 := Tryd.func118.trans (congrArg some (by kernel_rfl))
  t3 := Tryd.underlying3
  a3 := Tryd.isAgg3
  z3 := Tryd.sizeOf3
  v3 := Tryd.zeroValue3
  t4 := Tryd.underlying4
  a4 := Tryd.isAgg4
  z4 := Tryd.sizeOf4
  v4 := Tryd.zeroValue4
  t5 := Tryd.underlying5
  a5 := Tryd.isAgg5
  z5 := Tryd.sizeOf5
  v5 := Tryd.zeroValue5
  t9 := Tryd.underlying9
  a9 := Tryd.isAgg9
  z9 := Tryd.sizeOf9
  v9 := Tryd.zeroValue9
  t46 := Tryd.underlying111
  a46 := Tryd.isAgg111
  z46 := Tryd.sizeOf111
  v46 := Tryd.zeroValue111
  t51 := Tryd.underlying123
  a51 := Tryd.isAgg123
  z51 := Tryd.sizeOf123
  v51 := Tryd.zeroValue123
  t59 := Tryd.underlying66
  a59 := Tryd.isAgg66
  z59 := Tryd.sizeOf66
  v59 := Tryd.zeroValue66
  t146 := Tryd.underlying124
  a146 := Tryd.isAgg124
  z146 := Tryd.sizeOf124
  v146 := Tryd.zeroValue124
  g1 := by kernel_rfl }
def Tryd.atoi_ren : Go.Shelf.Ren := ⟨fun | 172 => 70 | 244 => 87 | 245 => 88 | 247 => 100 | 279 => 101 | 280 => 102 | 281 => 103 | 282 => 104 | 287 => 114 | 316 => 115 | 171 => 62 | 205 => 116 | 321 => 124 | 322 => 125 | 243 => 81 | 246 => 96 | 283 => 109 | 284 => 110 | 285 => 111 | 286 => 112 | 129 => 120 | 317 => 119 | 318 => 121 | 319 => 122 | 320 => 123 | 337 => 126 | 338 => 127 | n => n, fun | 9 => 9 | 3 => 3 | 75 => 84 | 76 => 85 | 4 => 4 | 5 => 5 | 167 => 105 | 37 => 44 | 0 => 0 | 85 => 106 | 2 => 2 | 168 => 108 | 53 => 70 | 175 => 117 | 46 => 111 | 210 => 121 | 127 => 135 | 145 => 138 | 143 => 136 | 21 => 21 | 171 => 112 | 173 => 115 | 212 => 127 | 51 => 123 | 20 => 20 | 213 => 128 | 232 => 140 | 233 => 141 | 80 => 92 | n => n, fun | 15 => 1 | 16 => 2 | 17 => 3 | 18 => 6 | 19 => 7 | n => n⟩
theorem Tryd.atoi : Go.Proofs.LaysC.n172 Tryd.prog Tryd.atoi_ren := {
  mixed := by kernel_rfl
  f129 := Tryd.func120.trans (congrArg some (by kernel_rfl))
  f171 := Tryd.func62.trans (congrArg some (by kernel_rfl))
  f172 := Tryd.func70.trans (congrArg some (by kernel_rfl))
  f205 := Tryd.func116.trans (congrArg some (by kernel_rfl))
  f243 := Tryd.func81.trans (congrArg some (by kernel_rfl))
  f244 := Tryd.func87.trans (congrArg some (by kernel_rfl))
  f245 := Tryd.func88.trans (congrArg some (by kernel_rfl))
  f246 := Tryd.func96.trans (congrArg some (by kernel_rfl))
  f247 := Tryd.func100.trans (congrArg some (by kernel_rfl))
  f279 := Tryd.func101.trans (congrArg some (by kernel_rfl))
  f280 := Tryd.func102.trans (congrArg some (by kernel_rfl))
  f281 := Tryd.func103.trans (congrArg some (by kernel_rfl))
  f282 := Tryd.func104.trans (congrArg some (by kernel_rfl))
  f283 := Tryd.func109.trans (congrArg some (by kernel_rfl))
  f284 := Tryd.func110.trans (congrArg some (by kernel_rfl))
  f285 := Tryd.func111.trans (congrArg some (by kernel_rfl))
  f286 := Tryd.func112.trans (congrArg some (by kernel_rfl))
  f287 := Tryd.func114.trans (congrArg some (by kernel_rfl))
  f316 := Tryd.func115.trans (congrArg some (by kernel_rfl))
  f317 := Tryd.func119.trans (congrArg some (by kernel_rfl))
  f318 := Tryd.func121.trans (congrArg some (by kernel_rfl))
  f319 := Tryd.func122.trans (congrArg some (by kernel_rfl))
  f320 := Tryd.func123.trans (congrArg some (by kernel_rfl))
  f321 := Tryd.func124.trans (congrArg some (by kernel_rfl))
  f322 := Tryd.func125.trans (congrArg some (by kernel_rfl))
  f337 := Tryd.func126.trans (congrArg some (by kernel_rfl))
  f338 := Tryd.func127.trans (congrArg some (by kernel_rfl))
  t0 := Tryd.underlying0
  a0 := Tryd.isAgg0
  z0 := Tryd.sizeOf0
  v0 := Tryd.zeroValue0
  t2 := Tryd.underlying2
  a2 := Tryd.isAgg2
  z2 := Tryd.sizeOf2
  v2 := Tryd.zeroValue2
  t3 := Tryd.underlying3
  a3 := Tryd.isAgg3
  z3 := Tryd.sizeOf3
  v3 := Tryd.zeroValue3
  t4 := Tryd.underlying4
  a4 := Tryd.isAgg4
  z4 := Tryd.sizeOf4
  v4 := Tryd.zeroValue4
  t5 := Tryd.underlying5
  a5 := Tryd.isAgg5
  z5 := Tryd.sizeOf5
  v5 := Tryd.zeroValue5
  t9 := Tryd.underlying9
  a9 := Tryd.isAgg9
  z9 := Tryd.sizeOf9
  v9 := Tryd.zeroValue9
  t20 := Tryd.underlying20
  a20 := Tryd.isAgg20
  z20 := Tryd.sizeOf20
  v20 := Tryd.zeroValue20
  t21 := Tryd.underlying21
  a21 := Tryd.isAgg21
  z21 := Tryd.sizeOf21
  v21 := Tryd.zeroValue21
  t37 := Tryd.underlying44
  a37 := Tryd.isAgg44
  z37 := Tryd.sizeOf44
  v37 := Tryd.zeroValue44
  t46 := Tryd.underlying111
  a46 := Tryd.isAgg111
  z46 := Tryd.sizeOf111
  v46 := Tryd.zeroValue111
  t51 := Tryd.underlying123
  a51 := Tryd.isAgg123
  z51 := Tryd.sizeOf123
  v51 := Tryd.zeroValue123
  t53 := Tryd.underlying70
  a53 := Tryd.isAgg70
  z53 := Tryd.sizeOf70
  v53 := Tryd.zeroValue70
  t75 := Tryd.underlying84
  a75 := Tryd.isAgg84
  z75 := Tryd.sizeOf84
  v75 := Tryd.zeroValue84
  t76 := Tryd.underlying85
  a76 := Tryd.isAgg85
  z76 := Tryd.sizeOf85
  v76 := Tryd.zeroValue85
  t85 := Tryd.underlying106
  a85 := Tryd.isAgg106
  z85 := Tryd.sizeOf106
  v85 := Tryd.zeroValue106
  t127 := Tryd.underlying135
  a127 := Tryd.isAgg135
  z127 := Tryd.sizeOf135
  v127 := Tryd.zeroValue135
  t143 := Tryd.underlying136
  a143 := Tryd.isAgg136
  z143 := Tryd.sizeOf136
  v143 := Tryd.zeroValue136
  t145 := Tryd.underlying138
  a145 := Tryd.isAgg138
  z145 := Tryd.sizeOf138
  v145 := Tryd.zeroValue138
  t167 := Tryd.underlying105
  a167 := Tryd.isAgg105
  z167 := Tryd.sizeOf105
  v167 := Tryd.zeroValue105
  t168 := Tryd.underlying108
  a168 := Tryd.isAgg108
  z168 := Tryd.sizeOf108
  v168 := Tryd.zeroValue108
  t171 := Tryd.underlying112
  a171 := Tryd.isAgg112
  z171 := Tryd.sizeOf112
  v171 := Tryd.zeroValue112
  t173 := Tryd.underlying115
  a173 := Tryd.isAgg115
  z173 := Tryd.sizeOf115
  v173 := Tryd.zeroValue115
  t175 := Tryd.underlying117
  a175 := Tryd.isAgg117
  z175 := Tryd.sizeOf117
  v175 := Tryd.zeroValue117
  t210 := Tryd.underlying121
  a210 := Tryd.isAgg121
  z210 := Tryd.sizeOf121
  v210 := Tryd.zeroValue121
  t212 := Tryd.underlying127
  a212 := Tryd.isAgg127
  z212 := Tryd.sizeOf127
  v212 := Tryd.zeroValue127
  t213 := Tryd.underlying128
  a213 := Tryd.isAgg128
  z213 := Tryd.sizeOf128
  t232 := Tryd.underlying140
  a232 := Tryd.isAgg140
  z232 := Tryd.sizeOf140
  v232 := Tryd.zeroValue140
  t233 := Tryd.underlying141
  a233 := Tryd.isAgg141
  z233 := Tryd.sizeOf141
  v233 := Tryd.zeroValue141
  g15 := by kernel_rfl
  g16 := by kernel_rfl
  g17 := by kernel_rfl
  g18 := by kernel_rfl
  g19 := by kernel_rfl
  t80 := Tryd.underlying92
  a80 := Tryd.isAgg92
  z80 := Tryd.sizeOf92
  v80 := Tryd.zeroValue92
  i0 := by kernel_rfl
  i2 := by kernel_rfl
  i3 := by kernel_rfl
  i4 := by kernel_rfl
  i5 := by kernel_rfl
  i9 := by kernel_rfl
  i20 := by kernel_rfl
  i21 := by kernel_rfl
  i37 := by kernel_rfl
  i46 := by kernel_rfl
  i51 := by kernel_rfl
  i53 := by kernel_rfl
  i75 := by kernel_rfl
  i76 := by kernel_rfl
  i80 := by kernel_rfl
  i85 := by kernel_rfl
  i127 := by kernel_rfl
  i143 := by kernel_rfl
  i145 := by kernel_rfl
  i167 := by kernel_rfl
  i168 := by kernel_rfl
  i171 := by kernel_rfl
  i173 := by kernel_rfl
  i175 := by kernel_rfl
  i210 := by kernel_rfl
  i212 := by kernel_rfl
  i232 := by kernel_rfl
  i233 := by kernel_rfl
  m15 := by kernel_rfl
  m16 := by kernel_rfl
  m17 := by kernel_rfl
  m18 := by kernel_rfl
  m19 := by kernel_rfl
  c0 := by kernel_rfl
  c2 := by kernel_rfl
  c3 := by kernel_rfl
  c4 := by kernel_rfl
  c5 := by kernel_rfl
  c9 := by kernel_rfl
  c20 := by kernel_rfl
  c21 := by kernel_rfl
  c37 := by kernel_rfl
  c46 := by kernel_rfl
  c51 := by kernel_rfl
  c53 := by kernel_rfl
  c75 := by kernel_rfl
  c76 := by kernel_rfl
  c80 := by kernel_rfl
  c85 := by kernel_rfl
  c127 := by kernel_rfl
  c143 := by kernel_rfl
  c145 := by kernel_rfl
  c167 := by kernel_rfl
  c168 := by kernel_rfl
  c171 := by kernel_rfl
  c173 := by kernel_rfl
  c175 := by kernel_rfl
  c210 := by kernel_rfl
  c212 := by kernel_rfl
  c213 := by kernel_rfl
  c232 := by kernel_rfl
  c233 := by kernel_rfl }
end Go.Proofs

set_option linter.unusedVariables false
set_option linter.unusedSimpArgs false
set_option maxRecDepth 100000
namespace Go.Proofs.YtdgoejkijpllpaaDoor
open Go Go.AV Go.M
attribute [local irreducible] OpW OpA OpS AWP FSpec ESpec GSpec OpE RetOk RetOkG RvDen Le Ev GuardIs SrcIs Int.tmod Int.tdiv IntKind.wrap
def readW (w : World) : Prop := tabW w ∧ (∃ m, w.cell? ⟨0, 0, none⟩ = some (.int .i64 m)) ∧ (∃ tp p, w.var? Tryd.prog "strconv.ErrSyntax" = some #[.iface tp p]) ∧ (∃ tp p, w.var? Tryd.prog "strconv.ErrRange" = some #[.iface tp p])
theorem readW_heap {W w' : World} (h : readW W) (hw : RLe (heapR W) w') : readW w' :=
  let ⟨h1, ⟨m, h2⟩, ⟨t3, p3, h3⟩, ⟨t4, p4, h4⟩⟩ := h
  ⟨tabW_heap h1 hw, ⟨m, cell_heap h2 hw⟩, ⟨t3, p3, var_heap h3 hw⟩, ⟨t4, p4, var_heap h4 hw⟩⟩
theorem split_spec (s : Str) (c : UInt8) (hs : s.length ≤ 1048576) : FSpec Tryd.prog 43 [AV.wt readW (AV.str s), AV.str [c]] (strs (splitC c s)) := by
  have hsz : (ByteArray.mk s.toArray).size = s.length := size_mk s
  have hle := Lib.countB_le ⟨#[c]⟩ (Nat.le_refl 1) _ ⟨s.toArray⟩ (Nat.le_refl _)
  have hlen := Lib.splitB_all ⟨#[c]⟩ (Nat.le_refl 1) 0 _ ⟨s.toArray⟩ rfl
  refine fspec_of_gspec (pieces_own (T := readW) (t := 9) (s := s) (c := c) (ps := Lib.splitB ⟨#[c]⟩ 0 (Lib.countB ⟨s.toArray⟩ ⟨#[c]⟩) ⟨s.toArray⟩) ?_ ?_ fun w hT => ?_) fun v _ => lt_arr (List.mem_singleton.2 rfl) le_refl_e
  · rw [Lib.splitB_data]
    show Lib.splitK [c] 0 (Lib.count s [c]) s = _
    rw [Lib.count_one]
    exact split_rec c s _ rfl
  · rw [hlen]; unfold maxLen; omega
  · obtain ⟨_, ⟨m, hm⟩, _⟩ := hT
    refine (Any.strings_Split Tryd.split (by kernel_rfl) ⟨s.toArray⟩ ⟨#[c]⟩ m w (by rw [hsz]; omega) hm (Nat.le_refl 1)).mono fun e w' ⟨e1, e2⟩ => ?_
    rw [hlen]
    exact ⟨e1, e2⟩
theorem cut_spec (s : Str) (c : UInt8) (hs : s.length ≤ 1048576) : FSpec Tryd.prog 45 [AV.wt readW (AV.str s), AV.str [c]] (AV.tup [AV.str (Lib.cut s [c]).1, AV.str (Lib.cut s [c]).2.1, AV.bool (Lib.cut s [c]).2.2]) :=
  fspec_wtL fun R w v vs hr hx hd hT => by
    match vs, hd.1 with
    | [u], _ =>
      obtain ⟨_, ⟨m, hm⟩, _⟩ := hT
      have hsz : (ByteArray.mk s.toArray).size = s.length := size_mk s
      rw [show v = Value.string ⟨s.toArray⟩ from hx, show u = Value.string ⟨#[c]⟩ from hd.2 1 u _ rfl rfl]
      refine (Any.strings_Cut Tryd.cut ⟨s.toArray⟩ ⟨#[c]⟩ m w (by rw [hsz]; omega) hm).mono ?_
      rintro e w' ⟨rfl, n, rfl⟩
      exact ⟨_, rfl, ⟨_, rfl, DenV.cons rfl (DenV.cons rfl (DenV.cons rfl (DenV.nil _)))⟩, below_drew w n⟩
theorem atoi_spec (s : Str) (hs : s.length ≤ 1048576) : FSpec Tryd.prog 70 [AV.wt readW (AV.str s)] (AV.tup [AV.int (atoiV s), AV.errB (atoiBad s)]) :=
  fspec_wt fun R w v hr hx hT => by
    have hsz : (ByteArray.mk s.toArray).size = s.length := size_mk s
    obtain ⟨_, _, ⟨t3, p3, h3⟩, ⟨t4, p4, h4⟩⟩ := hT
    rw [show v = Value.string ⟨s.toArray⟩ from hx]
    rcases ha : Lib.atoiAll s with n | _ | _
    · have e1 : atoiV s = n := by unfold atoiV; rw [ha]
      have e2 : atoiBad s = false := by unfold atoiBad; rw [ha]
      rw [e1, e2]
      refine (Any.strconv_Atoi_ok Tryd.atoi ⟨s.toArray⟩ (by rw [hsz]; omega) n ha w).mono ?_
      rintro e w' ⟨rfl, hw⟩
      exact ⟨_, rfl, ⟨_, rfl, DenV.cons rfl (DenV.cons ⟨fun _ => rfl, fun h => (by cases h)⟩ (DenV.nil _))⟩, by (rcases hw with rfl | ⟨t, rfl⟩); exact below_same _; exact below_bytes _ _ _⟩
    · have e1 : atoiV s = 0 := by unfold atoiV; rw [ha]
      have e2 : atoiBad s = true := by unfold atoiBad; rw [ha]
      rw [e1, e2]
      refine (Any.strconv_Atoi_syntax_var Tryd.atoi ⟨s.toArray⟩ (by rw [hsz]; omega) ha t3 p3 w h3).mono ?_
      rintro e w' ⟨N, rfl, _, _, hb⟩
      exact ⟨_, rfl, ⟨_, rfl, DenV.cons rfl (DenV.cons ⟨fun h => (by cases h), fun _ => ⟨_, _, rfl⟩⟩ (DenV.nil _))⟩, hb⟩
    · have e1 : atoiV s = Lib.atoiSat s := by unfold atoiV; rw [ha]
      have e2 : atoiBad s = true := by unfold atoiBad; rw [ha]
      rw [e1, e2]
      refine (Any.strconv_Atoi_range_var Tryd.atoi ⟨s.toArray⟩ (by rw [hsz]; omega) ha t4 p4 w h4).mono ?_
      rintro e w' ⟨N, rfl, _, _, hb⟩
      exact ⟨_, rfl, ⟨_, rfl, DenV.cons rfl (DenV.cons ⟨fun h => (by cases h), fun _ => ⟨_, _, rfl⟩⟩ (DenV.nil _))⟩, hb⟩
end Go.Proofs.YtdgoejkijpllpaaDoor

set_option linter.unusedVariables false
set_option linter.unusedSimpArgs false
set_option maxRecDepth 100000
set_option maxHeartbeats 1000000
namespace Go.M
open Go.AV
theorem atoiV_rng (s : Str) : -9223372036854775808 ≤ atoiV s ∧ atoiV s ≤ 9223372036854775807 := by
  unfold atoiV
  split
  · rename_i h; exact Lib.atoiAll_bounds h
  · unfold Lib.atoiSat; split <;> omega
  · omega
theorem bad_cons (b : UInt8) (r : Str) : l1BadB (b :: r) = (!within ((b :: r).length : Nat) 1 6 || (((b.toNat : Int) == 48) && decide ((1 : Int) < ((b :: r).length : Nat)))) := by
  unfold l1BadB
  have : (b == 48) = ((b.toNat : Int) == 48) := by
    by_cases h : b = 48
    · subst h; rfl
    · have h2 : b.toNat ≠ 48 := fun e => h (UInt8.toNat_inj.1 e)
      have h3 : (b == 48) = false := by simpa using h
      rw [h3]; symm; simp; omega
  simp [this]
theorem dig_val {x : UInt8} (h : 48 ≤ x.toNat ∧ x.toNat ≤ 57) : IntKind.i64.wrap (IntKind.u8.wrap ((x.toNat : Int) - 48)) = ((x.toNat - 48 : Nat) : Int) := by
  have e : IntKind.u8.wrap ((x.toNat : Int) - 48) = ((x.toNat - 48 : Nat) : Int) := by
    simp [IntKind.wrap, IntKind.bits, IntKind.signed]; omega
  rw [e, in64 (by omega)]
theorem rd_next {n i : Nat} {s : Str} {x : UInt8} (hx : s[i]? = some x) (h : 48 ≤ x.toNat ∧ x.toNat ≤ 57) : rdFrom n (s.drop i) = rdFrom (10 * n + (x.toNat - 48)) (s.drop (i + 1)) := by
  have hlt := (List.getElem?_eq_some_iff.1 hx).1
  rw [List.drop_eq_getElem_cons hlt, (List.getElem?_eq_some_iff.1 hx).2]
  conv => lhs; unfold rdFrom
  rw [if_pos (by unfold isDig; simp; omega)]
theorem rd_stop {n i : Nat} {s : Str} {x : UInt8} (hx : s[i]? = some x) (h : x.toNat < 48 ∨ 57 < x.toNat) : rdFrom n (s.drop i) = -1 := by
  have hlt := (List.getElem?_eq_some_iff.1 hx).1
  rw [List.drop_eq_getElem_cons hlt, (List.getElem?_eq_some_iff.1 hx).2]
  conv => lhs; unfold rdFrom
  rw [if_neg (by unfold isDig; simp; omega)]
theorem pow6 {i : Nat} (h : i ≤ 6) : 10 ^ i ≤ 1000000 := Nat.pow_le_pow_right (by decide) h
theorem pow_nx {n i d : Nat} (h : n + 1 ≤ 10 ^ i) (hd : d ≤ 9) : (10 * n + d) + 1 ≤ 10 ^ (i + 1) := by rw [Nat.pow_succ]; omega
end Go.M
namespace Go.Proofs.YtdgoejkijpllpaaDoor
open Go Go.AV Go.M
attribute [local irreducible] OpW OpA OpS AWP FSpec ESpec GSpec OpE RetOk RetOkG RvDen Le Ev GuardIs SrcIs Int.tmod Int.tdiv IntKind.wrap
theorem readInt_spec (s : Str) (lo hi : Int) (hs : s.length ≤ 1048576) : FSpec Tryd.prog 44 [AV.wt readW (AV.str s), AV.int lo, AV.int hi] (AV.tup [AV.int (readI s lo hi).1, AV.bool (readI s lo hi).2]) := by
  refine spec_of_awp Tryd.func44 rfl Tryd.ntmps44 rfl ?_
  refine AWP.le (le_tab (t := 0) rfl) ?_
  refine awp_seq ?_
  refine awp_region ?_
  refine sq_plain rfl rfl rfl (w_assign rfl ev_ci) ?_
  refine sq_plain rfl rfl rfl (w_assign rfl ev_cb) ?_
  refine sq_nil ?_
  refine awp_seq ?_
  refine awp_region ?_
  refine sq_plain rfl rfl rfl (w_move rfl (ev_tmp rfl)) ?_
  refine sq_plain rfl rfl rfl (w_callT 0 rfl rfl Tryd.call70 rfl (atoi_spec s hs) (evl_cons (ev_tmp rfl) evl_nil) (by first | exact fun _ h => h | exact fun _ h => h.1)) ?_
  refine sq_plain rfl rfl rfl (w_move rfl (ev_tmp rfl)) ?_
  refine sq_plain rfl rfl rfl (w_extract rfl (ev_tmp rfl) rfl) ?_
  refine sq_plain rfl rfl rfl (w_extract rfl (ev_tmp rfl) rfl) ?_
  refine sq_plain rfl rfl rfl (w_assign rfl (ev_tmp rfl)) ?_
  refine sq_plain rfl rfl rfl (w_assign rfl (ev_tmp rfl)) ?_
  refine sq_nil ?_
  refine awp_seq ?_
  refine awp_seq ?_
  refine awp_region ?_
  refine sq_plain rfl rfl rfl (w_move rfl (ev_tmp rfl)) ?_
  refine sq_plain rfl rfl rfl (w_errneq rfl (by kernel_rfl) (ev_tmp rfl)) ?_
  refine sq_plain rfl rfl rfl (w_move rfl (ev_tmp rfl)) ?_
  refine sq_grd rfl rfl (guard_f rfl rfl rfl) (fun hc => w_move rfl (ev_tmp rfl)) ?_
  refine sq_grd rfl rfl (guard_f rfl rfl rfl) (fun hc => w_move rfl (ev_tmp rfl)) ?_
  refine sq_grd rfl rfl (guard_f rfl rfl rfl) (fun hc => w_move rfl (ev_tmp rfl)) ?_
  refine sq_grd rfl rfl (guard_f rfl rfl rfl) (fun hc => w_call rfl Tryd.call65 rfl (within_spec _ _ _) (evl_cons (ev_whn rfl hc) (evl_cons (ev_whn rfl hc) (evl_cons (ev_whn rfl hc) evl_nil)))) ?_
  refine sq_grd rfl rfl (guard_f rfl rfl rfl) (fun hc => w_not rfl (ev_whn rfl hc)) ?_
  refine sq_plain rfl rfl rfl (w_or rfl (ev_tmp rfl) (evif_w rfl)) ?_
  refine sq_plain rfl rfl rfl (w_move rfl (ev_tmp rfl)) ?_
  refine sq_grd rfl rfl (guard_f rfl rfl rfl) (fun hc => w_move rfl (ev_tmp rfl)) ?_
  refine sq_grd rfl rfl (guard_f rfl rfl rfl) (fun hc => w_callT 0 rfl rfl Tryd.call62 rfl (itoa_spec (atoiV s) (atoiV_rng s)) (evl_cons (ev_whn rfl hc) evl_nil) (by first | exact fun _ h => h | exact fun _ h => h.1)) ?_
  refine sq_grd rfl rfl (guard_f rfl rfl rfl) (fun hc => w_move rfl (ev_tmp rfl)) ?_
  refine sq_grd rfl rfl (guard_f rfl rfl rfl) (fun hc => w_sneq rfl (ev_whn rfl hc) (ev_whn rfl hc)) ?_
  refine sq_plain rfl rfl rfl (w_or rfl (ev_tmp rfl) (evif_w rfl)) ?_
  refine sq_nil ?_
  refine awp_cond (ev_tmp rfl) ?_ ?_
  · intro h29
    have he : readI s lo hi = (0, false) := if_pos h29
    rw [he]
    refine awp_seq ?_
    refine awp_region ?_
    refine sq_plain rfl rfl rfl (w_assign rfl ev_ci) ?_
    refine sq_plain rfl rfl rfl (w_assign rfl ev_cb) ?_
    refine sq_nil ?_
    refine awp_ret ?_
    exact retN rfl (by decide) (rv_cons (rv_tmp' rfl (by rfl)) (rv_cons (rv_tmp' rfl (by rfl)) rv_nil))
  · intro h29
    have he : readI s lo hi = (atoiV s, true) := if_neg (by rw [h29]; decide)
    rw [he]
    refine awp_skip ?_
    refine awp_seq ?_
    refine awp_region ?_
    refine sq_plain rfl rfl rfl (w_move rfl (ev_tmp rfl)) ?_
    refine sq_plain rfl rfl rfl (w_assign rfl (ev_tmp rfl)) ?_
    refine sq_plain rfl rfl rfl (w_assign rfl ev_cb) ?_
    refine sq_nil ?_
    refine awp_ret ?_
    exact retN rfl (by decide) (rv_cons (rv_tmp' rfl (by rfl)) (rv_cons (rv_tmp' rfl (by rfl)) rv_nil))
theorem l1Read_nil : FSpec Tryd.prog 42 [AV.str []] (AV.int (l1R [])) := by
  refine spec_of_awp Tryd.func42 rfl Tryd.ntmps42 rfl ?_
  refine awp_seq ?_
  refine awp_region ?_
  refine sq_plain rfl rfl rfl (w_assign rfl ev_ci) ?_
  refine sq_nil ?_
  refine awp_seq ?_
  refine awp_seq ?_
  refine awp_region ?_
  refine sq_plain rfl rfl rfl (w_move rfl (ev_tmp rfl)) ?_
  refine sq_plain rfl rfl rfl (w_slen rfl Tryd.underlying9 (ev_tmp rfl)) ?_
  refine sq_plain rfl rfl rfl (w_call rfl Tryd.call55 rfl (l1In_spec _ _ _) (evl_cons (ev_tmp rfl) (evl_cons ev_ci (evl_cons ev_ci evl_nil)))) ?_
  refine sq_plain rfl rfl rfl (w_not rfl (ev_tmp rfl)) ?_
  refine sq_plain rfl rfl rfl (w_move rfl (ev_tmp rfl)) ?_
  refine sq_grd rfl rfl (guard_f rfl rfl rfl) (fun hc => w_move rfl (ev_tmp rfl)) ?_
  refine sq_grd rfl rfl (guard_f rfl rfl rfl) (fun hc => (show OpW _ _ _ _ _ _ (AV.byte 0) from (by exfalso; revert hc; decide))) ?_
  refine sq_grd rfl rfl (guard_f rfl rfl rfl) (fun hc => w_eql rfl (ev_whn rfl hc) ev_ci) ?_
  refine sq_grd rfl rfl (guard_f rfl rfl rfl) (fun hc => w_move rfl (ev_whn rfl hc)) ?_
  refine sq_grd rfl rfl (guard_wt rfl rfl rfl) (fun hc => w_move rfl (ev_tmp rfl)) ?_
  refine sq_grd rfl rfl (guard_wt rfl rfl rfl) (fun hc => w_slen rfl Tryd.underlying9 (ev_whn rfl hc)) ?_
  refine sq_grd rfl rfl (guard_wt rfl rfl rfl) (fun hc => w_gtr rfl (ev_whn rfl hc) ev_ci) ?_
  refine sq_grd rfl rfl (guard_f rfl rfl rfl) (fun hc => w_and rfl (ev_whn rfl hc) (evif_w2 rfl hc)) ?_
  refine sq_plain rfl rfl rfl (w_or rfl (ev_tmp rfl) (evif_w rfl)) ?_
  refine sq_nil ?_
  refine awp_cond (ev_tmp rfl) ?_ ?_
  · intro h18
    refine awp_seq ?_
    refine awp_region ?_
    refine sq_plain rfl rfl rfl (w_assign rfl ev_ci) ?_
    refine sq_nil ?_
    refine awp_ret ?_
    exact retR rfl (rv_tmp' rfl (by rfl))
  · intro h18
    exfalso; revert h18; decide
theorem l1Read_cons (b : UInt8) (r : Str) (hs : (b :: r).length ≤ 1048576) : FSpec Tryd.prog 42 [AV.str (b :: r)] (AV.int (l1R (b :: r))) := by
  have hb0 : (b :: r)[0]? = some b := rfl
  obtain ⟨s, hse⟩ : ∃ s, b :: r = s := ⟨_, rfl⟩
  have hbad := bad_cons b r
  rw [hse] at hs hb0 hbad ⊢
  refine spec_of_awp Tryd.func42 rfl Tryd.ntmps42 rfl ?_
  refine awp_seq ?_
  refine awp_region ?_
  refine sq_plain rfl rfl rfl (w_assign rfl ev_ci) ?_
  refine sq_nil ?_
  refine awp_seq ?_
  refine awp_seq ?_
  refine awp_region ?_
  refine sq_plain rfl rfl rfl (w_move rfl (ev_tmp rfl)) ?_
  refine sq_plain rfl rfl rfl (w_slen rfl Tryd.underlying9 (ev_tmp rfl)) ?_
  refine sq_plain rfl rfl rfl (w_call rfl Tryd.call55 rfl (l1In_spec _ _ _) (evl_cons (ev_tmp rfl) (evl_cons ev_ci (evl_cons ev_ci evl_nil)))) ?_
  refine sq_plain rfl rfl rfl (w_not rfl (ev_tmp rfl)) ?_
  refine sq_plain rfl rfl rfl (w_move rfl (ev_tmp rfl)) ?_
  refine sq_grd rfl rfl (guard_f rfl rfl rfl) (fun hc => w_move rfl (ev_tmp rfl)) ?_
  refine sq_grd rfl rfl (guard_f rfl rfl rfl) (fun hc => w_sidx rfl Tryd.underlying9 (ev_whn rfl hc) ev_ci (by have := (List.getElem?_eq_some_iff.1 hb0).1; omega) hb0) ?_
  refine sq_grd rfl rfl (guard_f rfl rfl rfl) (fun hc => w_eql rfl (ev_whn rfl hc) ev_ci) ?_
  refine sq_grd rfl rfl (guard_f rfl rfl rfl) (fun hc => w_move rfl (ev_whn rfl hc)) ?_
  refine sq_grd rfl rfl (guard_wt rfl rfl rfl) (fun hc => w_move rfl (ev_tmp rfl)) ?_
  refine sq_grd rfl rfl (guard_wt rfl rfl rfl) (fun hc => w_slen rfl Tryd.underlying9 (ev_whn rfl hc)) ?_
  refine sq_grd rfl rfl (guard_wt rfl rfl rfl) (fun hc => w_gtr rfl (ev_whn rfl hc) ev_ci) ?_
  refine sq_grd rfl rfl (guard_f rfl rfl rfl) (fun hc => w_and rfl (ev_whn rfl hc) (evif_w2 rfl hc)) ?_
  refine sq_plain rfl rfl rfl (w_or rfl (ev_tmp rfl) (evif_w rfl)) ?_
  refine sq_nil ?_
  refine awp_cond (ev_tmp rfl) ?_ ?_
  · intro h18
    have he : l1R s = -1 := if_pos (by rw [hbad]; exact h18)
    rw [he]
    refine awp_seq ?_
    refine awp_region ?_
    refine sq_plain rfl rfl rfl (w_assign rfl ev_ci) ?_
    refine sq_nil ?_
    refine awp_ret ?_
    exact retR rfl (rv_tmp' rfl (by rfl))
  · intro h18
    have he : l1R s = rdFrom 0 s := if_neg (by rw [hbad, h18]; decide)
    rw [he]
    have hl6 : s.length ≤ 6 := (by simp only [Bool.or_eq_false_iff, Bool.not_eq_false'] at h18; have h9 := h18.1; unfold within at h9; simp at h9; omega)
    refine awp_skip ?_
    refine awp_seq ?_
    refine awp_region ?_
    refine sq_plain rfl rfl rfl (w_assign rfl ev_ci) ?_
    refine sq_nil ?_
    refine awp_seq ?_
    refine awp_seq ?_
    refine awp_region ?_
    refine sq_plain rfl rfl rfl (w_assign rfl ev_ci) ?_
    refine sq_nil ?_
    refine awp_block ?_
    refine awp_loop_i2 [(0, _)] _ (fun (i : Nat) (n : Nat) => i ≤ s.length ∧ rdFrom 0 s = rdFrom n (s.drop i) ∧ n + 1 ≤ 10 ^ i) (fun (i : Nat) (n : Nat) => []) (fun (i : Nat) (n : Nat) => [(3, AV.int n), (4, AV.int i)]) (fun (i : Nat) (n : Nat) => s.length - i) (0) (0) ?_ (le_env ⟨rfl, rfl, rfl, trivial⟩) ?_
    · exact ⟨Nat.zero_le _, rfl, by decide⟩
    intro i n hinv
    have hp6 := pow6 (i := i) (by omega)
    have hn6 := hinv.2.2
    refine awp_seq ?_
    refine awp_seq ?_
    refine awp_region ?_
    refine sq_plain rfl rfl rfl (w_move rfl (ev_tmp rfl)) ?_
    refine sq_plain rfl rfl rfl (w_move rfl (ev_tmp rfl)) ?_
    refine sq_plain rfl rfl rfl (w_slen rfl Tryd.underlying9 (ev_tmp rfl)) ?_
    refine sq_plain rfl rfl rfl (w_lss rfl (ev_tmp rfl) (ev_tmp rfl)) ?_
    refine sq_nil ?_
    refine awp_cond (ev_tmp rfl) ?_ ?_
    · intro h22
      have k22 := of_decide_eq_true h22; try simp only [List.length_map] at k22
      obtain ⟨x, hx⟩ := get_some (show i < s.length by omega)
      refine awp_skip ?_
      refine awp_seq ?_
      refine awp_block ?_
      refine awp_seq ?_
      refine awp_seq ?_
      refine awp_region ?_
      refine sq_plain rfl rfl rfl (w_move rfl (ev_tmp rfl)) ?_
      refine sq_plain rfl rfl rfl (w_move rfl (ev_tmp rfl)) ?_
      refine sq_plain rfl rfl rfl (w_sidx rfl Tryd.underlying9 (ev_tmp rfl) (ev_tmp rfl) (by omega) hx) ?_
      refine sq_plain rfl rfl rfl (w_lss rfl (ev_tmp rfl) ev_ci) ?_
      refine sq_plain rfl rfl rfl (w_move rfl (ev_tmp rfl)) ?_
      refine sq_grd rfl rfl (guard_f rfl rfl rfl) (fun hc => w_move rfl (ev_tmp rfl)) ?_
      refine sq_grd rfl rfl (guard_f rfl rfl rfl) (fun hc => w_move rfl (ev_tmp rfl)) ?_
      refine sq_grd rfl rfl (guard_f rfl rfl rfl) (fun hc => w_sidx rfl Tryd.underlying9 (ev_whn rfl hc) (ev_whn rfl hc) (by omega) hx) ?_
      refine sq_grd rfl rfl (guard_f rfl rfl rfl) (fun hc => w_gtr rfl (ev_whn rfl hc) ev_ci) ?_
      refine sq_plain rfl rfl rfl (w_or rfl (ev_tmp rfl) (evif_w rfl)) ?_
      refine sq_nil ?_
      refine awp_cond (ev_tmp rfl) ?_ ?_
      · intro h34
        have hst := rd_stop (n := n) hx (by simp only [Bool.or_eq_true, decide_eq_true_eq] at h34; omega)
        rw [hinv.2.1, hst]
        refine awp_seq ?_
        refine awp_region ?_
        refine sq_plain rfl rfl rfl (w_assign rfl ev_ci) ?_
        refine sq_nil ?_
        refine awp_ret ?_
        exact retR rfl (rv_tmp' rfl (by rfl))
      · intro h34
        have hdig : 48 ≤ x.toNat ∧ x.toNat ≤ 57 := (by simp only [Bool.or_eq_false_iff, decide_eq_false_iff_not] at h34; omega)
        refine awp_skip ?_
        refine awp_region ?_
        refine sq_plain rfl rfl rfl (w_move rfl (ev_tmp rfl)) ?_
        refine sq_plain rfl rfl rfl (w_muli rfl ev_ci (ev_tmp rfl) (by first | omega | ((try simp only [List.length_map, List.length_take, List.length_cons, List.length_nil, chunks_len, szR] at *); omega) | (have hc2 := hc; simp only [Bool.and_eq_true, Bool.or_eq_true, Bool.or_eq_false_iff, Bool.and_eq_false_iff, Bool.not_eq_true', Bool.not_eq_false', decide_eq_true_eq, decide_eq_false_iff_not, beq_iff_eq, bne_iff_ne, List.length_map, List.length_take] at hc2; omega))) ?_
        refine sq_plain rfl rfl rfl (w_move rfl (ev_tmp rfl)) ?_
        refine sq_plain rfl rfl rfl (w_move rfl (ev_tmp rfl)) ?_
        refine sq_plain rfl rfl rfl (w_sidx rfl Tryd.underlying9 (ev_tmp rfl) (ev_tmp rfl) (by omega) hx) ?_
        refine sq_plain rfl rfl rfl (w_sub rfl (ev_tmp rfl) ev_ci) ?_
        refine sq_plain rfl rfl rfl (w_conv rfl (by kernel_rfl) Tryd.underlying3 (ev_tmp rfl)) ?_
        rw [dig_val hdig]
        refine sq_plain rfl rfl rfl (w_addi rfl (ev_tmp rfl) (ev_tmp rfl) (by first | omega | ((try simp only [List.length_map, List.length_take, List.length_cons, List.length_nil, chunks_len, szR] at *); omega) | (have hc2 := hc; simp only [Bool.and_eq_true, Bool.or_eq_true, Bool.or_eq_false_iff, Bool.and_eq_false_iff, Bool.not_eq_true', Bool.not_eq_false', decide_eq_true_eq, decide_eq_false_iff_not, beq_iff_eq, bne_iff_ne, List.length_map, List.length_take] at hc2; omega))) ?_
        refine sq_plain rfl rfl rfl (w_assign rfl (ev_tmp rfl)) ?_
        refine sq_nil ?_
        refine awp_region ?_
        refine sq_plain rfl rfl rfl (w_move rfl (ev_tmp rfl)) ?_
        refine sq_plain rfl rfl rfl (w_addi rfl (ev_tmp rfl) ev_ci (by first | omega | ((try simp only [List.length_map, List.length_take, List.length_cons, List.length_nil, chunks_len, szR] at *); omega) | (have hc2 := hc; simp only [Bool.and_eq_true, Bool.or_eq_true, Bool.or_eq_false_iff, Bool.and_eq_false_iff, Bool.not_eq_true', Bool.not_eq_false', decide_eq_true_eq, decide_eq_false_iff_not, beq_iff_eq, bne_iff_ne, List.length_map, List.length_take] at hc2; omega))) ?_
        refine sq_plain rfl rfl rfl (w_assign rfl (ev_tmp rfl)) ?_
        refine sq_nil ?_
        refine round_end2 i n (i + 1) (10 * n + (x.toNat - 48)) ?_ ?_ (le_env ⟨congrArg (fun z => some (AV.int z)) (by omega), rfl, rfl, trivial⟩)
        · exact ⟨by omega, hinv.2.1.trans (rd_next hx hdig), pow_nx hinv.2.2 (by omega)⟩
        · omega
    · intro h22
      have k22 := of_decide_eq_false h22; try simp only [List.length_map] at k22
      have hend : rdFrom 0 s = (n : Int) := (by rw [hinv.2.1, List.drop_of_length_le (by omega)]; rfl)
      rw [hend]
      refine awp_exit ?_
      refine awp_seq ?_
      refine awp_region ?_
      refine sq_plain rfl rfl rfl (w_move rfl (ev_tmp rfl)) ?_
      refine sq_plain rfl rfl rfl (w_assign rfl (ev_tmp rfl)) ?_
      refine sq_nil ?_
      refine awp_ret ?_
      exact retR rfl (rv_tmp' rfl (by rfl))
theorem l1Read_spec (s : Str) (hs : s.length ≤ 1048576) : FSpec Tryd.prog 42 [AV.str s] (AV.int (l1R s)) := by
  cases s with
  | nil => exact l1Read_nil
  | cons b r => exact l1Read_cons b r hs
theorem l1Split_spec (s : Str) (c : UInt8) (hs : s.length ≤ 1048576) : FSpec Tryd.prog 41 [AV.str s, AV.ik .u8 (c.toNat : Int)] (strs (splitC c s)) := by
  refine spec_of_awp Tryd.func41 rfl Tryd.ntmps41 rfl ?_
  refine awp_seq ?_
  refine awp_region ?_
  refine sq_plain rfl rfl rfl (w_assign rfl (ev_cnil (sz := 1))) ?_
  refine sq_nil ?_
  refine awp_seq ?_
  refine awp_region ?_
  refine sq_nilarr 9 1 rfl rfl rfl rfl ev_cnils ?_
  intro v5
  refine sq_nil ?_
  refine awp_seq ?_
  refine awp_region ?_
  refine sq_plain rfl rfl rfl (w_assign rfl ev_ci) ?_
  refine sq_nil ?_
  refine awp_seq ?_
  refine awp_seq ?_
  refine awp_region ?_
  refine sq_plain rfl rfl rfl (w_assign rfl ev_ci) ?_
  refine sq_nil ?_
  refine awp_block ?_
  refine awp_loop_i4 [(0, _), (1, _), (4, _)] _ (fun (i : Nat) (fr : Nat) (acc : List Str) (v : Value) => SpOk c s acc fr i) (fun (i : Nat) (fr : Nat) (acc : List Str) (v : Value) => [.arr v 9 1 (acc.map fun t => [AV.str t])]) (fun (i : Nat) (fr : Nat) (acc : List Str) (v : Value) => [(5, AV.is v), (6, AV.int fr), (7, AV.int i)]) (fun (i : Nat) (fr : Nat) (acc : List Str) (v : Value) => s.length - i) (0) (0) ([]) (v5) ?_ (le_eq (by rfl) ⟨rfl, rfl, rfl, rfl, rfl, rfl, trivial⟩) ?_
  · exact spOk_start c s
  intro i fr acc v hinv
  have hk1 := hinv.2.1
  have hk2 := hinv.2.2.1
  have hk3 := hinv.2.2.2
  refine awp_seq ?_
  refine awp_seq ?_
  refine awp_region ?_
  refine sq_plain rfl rfl rfl (w_move rfl (ev_tmp rfl)) ?_
  refine sq_plain rfl rfl rfl (w_move rfl (ev_tmp rfl)) ?_
  refine sq_plain rfl rfl rfl (w_slen rfl Tryd.underlying9 (ev_tmp rfl)) ?_
  refine sq_plain rfl rfl rfl (w_lss rfl (ev_tmp rfl) (ev_tmp rfl)) ?_
  refine sq_nil ?_
  refine awp_cond (ev_tmp rfl) ?_ ?_
  · intro h11
    have k11 := of_decide_eq_true h11; try simp only [List.length_map] at k11
    obtain ⟨x, hx⟩ := get_some (show i < s.length by omega)
    refine awp_skip ?_
    refine awp_seq ?_
    refine awp_block ?_
    refine awp_seq ?_
    refine awp_region ?_
    refine sq_plain rfl rfl rfl (w_move rfl (ev_tmp rfl)) ?_
    refine sq_plain rfl rfl rfl (w_move rfl (ev_tmp rfl)) ?_
    refine sq_plain rfl rfl rfl (w_sidx rfl Tryd.underlying9 (ev_tmp rfl) (ev_tmp rfl) (by omega) hx) ?_
    refine sq_plain rfl rfl rfl (w_move rfl (ev_tmp rfl)) ?_
    refine sq_plain rfl rfl rfl (w_eql rfl (ev_tmp rfl) (ev_tmp rfl)) ?_
    refine sq_nil ?_
    refine awp_cond (ev_tmp rfl) ?_ ?_
    · intro h18
      have k18 := eq_of_beqt h18; try simp only [List.length_map] at k18
      have hxc : s[i]? = some c := (by rw [hx]; congr 1; exact UInt8.toNat_inj.1 (by omega))
      refine awp_seq ?_
      refine awp_region ?_
      refine sq_plain rfl rfl rfl (w_move rfl (ev_tmp rfl)) ?_
      refine sq_plain rfl rfl rfl (w_move rfl (ev_tmp rfl)) ?_
      refine sq_plain rfl rfl rfl (w_move rfl (ev_tmp rfl)) ?_
      refine sq_plain rfl rfl rfl (w_move rfl (ev_tmp rfl)) ?_
      refine sq_plain rfl rfl rfl (w_ssl_lohi rfl Tryd.underlying9 (ev_tmp rfl) (ev_tmp rfl) (ev_tmp rfl) (by first | omega | ((try simp only [List.length_map, List.length_take, List.length_cons, List.length_nil, chunks_len, szR] at *); omega) | (have hc2 := hc; simp only [Bool.and_eq_true, Bool.or_eq_true, Bool.or_eq_false_iff, Bool.and_eq_false_iff, Bool.not_eq_true', Bool.not_eq_false', decide_eq_true_eq, decide_eq_false_iff_not, beq_iff_eq, bne_iff_ne, List.length_map, List.length_take] at hc2; omega)) (by first | omega | ((try simp only [List.length_map, List.length_take, List.length_cons, List.length_nil, chunks_len, szR] at *); omega) | (have hc2 := hc; simp only [Bool.and_eq_true, Bool.or_eq_true, Bool.or_eq_false_iff, Bool.and_eq_false_iff, Bool.not_eq_true', Bool.not_eq_false', decide_eq_true_eq, decide_eq_false_iff_not, beq_iff_eq, bne_iff_ne, List.length_map, List.length_take] at hc2; omega)) (by first | omega | ((try simp only [List.length_map, List.length_take, List.length_cons, List.length_nil, chunks_len, szR] at *); omega) | (have hc2 := hc; simp only [Bool.and_eq_true, Bool.or_eq_true, Bool.or_eq_false_iff, Bool.and_eq_false_iff, Bool.not_eq_true', Bool.not_eq_false', decide_eq_true_eq, decide_eq_false_iff_not, beq_iff_eq, bne_iff_ne, List.length_map, List.length_take] at hc2; omega))) ?_
      refine sq_plain rfl rfl rfl (w_bslice rfl Tryd.underlying30 Tryd.sizeOf9 Tryd.zeroValue9 rfl rfl rfl rfl (bp_cons (ev_tmp rfl) (as_str _) bp_nil) rfl rfl) ?_
      refine sq_append (by' := 16) 0 rfl rfl rfl rfl Tryd.underlying30 Tryd.type9 rfl rfl rfl rfl rfl rfl (ev_tmp rfl) (ev_tmp rfl) rfl (by first | omega | ((try simp only [List.length_map, List.length_take, List.length_cons, List.length_nil, chunks_len, szR] at *); omega) | (have hc2 := hc; simp only [Bool.and_eq_true, Bool.or_eq_true, Bool.or_eq_false_iff, Bool.and_eq_false_iff, Bool.not_eq_true', Bool.not_eq_false', decide_eq_true_eq, decide_eq_false_iff_not, beq_iff_eq, bne_iff_ne, List.length_map, List.length_take] at hc2; omega)) ?_
      intro v25_1
      refine sq_plain rfl rfl rfl (w_assign rfl (ev_tmp rfl)) ?_
      refine sq_nil ?_
      refine awp_region ?_
      refine sq_plain rfl rfl rfl (w_move rfl (ev_tmp rfl)) ?_
      refine sq_plain rfl rfl rfl (w_addi rfl (ev_tmp rfl) ev_ci (by first | omega | ((try simp only [List.length_map, List.length_take, List.length_cons, List.length_nil, chunks_len, szR] at *); omega) | (have hc2 := hc; simp only [Bool.and_eq_true, Bool.or_eq_true, Bool.or_eq_false_iff, Bool.and_eq_false_iff, Bool.not_eq_true', Bool.not_eq_false', decide_eq_true_eq, decide_eq_false_iff_not, beq_iff_eq, bne_iff_ne, List.length_map, List.length_take] at hc2; omega))) ?_
      refine sq_plain rfl rfl rfl (w_assign rfl (ev_tmp rfl)) ?_
      refine sq_nil ?_
      refine awp_region ?_
      refine sq_plain rfl rfl rfl (w_move rfl (ev_tmp rfl)) ?_
      refine sq_plain rfl rfl rfl (w_addi rfl (ev_tmp rfl) ev_ci (by first | omega | ((try simp only [List.length_map, List.length_take, List.length_cons, List.length_nil, chunks_len, szR] at *); omega) | (have hc2 := hc; simp only [Bool.and_eq_true, Bool.or_eq_true, Bool.or_eq_false_iff, Bool.and_eq_false_iff, Bool.not_eq_true', Bool.not_eq_false', decide_eq_true_eq, decide_eq_false_iff_not, beq_iff_eq, bne_iff_ne, List.length_map, List.length_take] at hc2; omega))) ?_
      refine sq_plain rfl rfl rfl (w_assign rfl (ev_tmp rfl)) ?_
      refine sq_nil ?_
      refine round_end4 i fr acc v (i + 1) (i + 1) (acc ++ [(s.take i).drop fr]) (v25_1) ?_ ?_ (le_eq (by first | rfl | (rw [List.map_append]; rfl)) ⟨rfl, rfl, rfl, rfl, rfl, rfl, trivial⟩)
      · exact spOk_hit hinv hxc
      · omega
    · intro h18
      have k18 := ne_of_beqf h18; try simp only [List.length_map] at k18
      have hxc : x ≠ c := (by intro e; subst e; simp at h18)
      refine awp_skip ?_
      refine awp_region ?_
      refine sq_plain rfl rfl rfl (w_move rfl (ev_tmp rfl)) ?_
      refine sq_plain rfl rfl rfl (w_addi rfl (ev_tmp rfl) ev_ci (by first | omega | ((try simp only [List.length_map, List.length_take, List.length_cons, List.length_nil, chunks_len, szR] at *); omega) | (have hc2 := hc; simp only [Bool.and_eq_true, Bool.or_eq_true, Bool.or_eq_false_iff, Bool.and_eq_false_iff, Bool.not_eq_true', Bool.not_eq_false', decide_eq_true_eq, decide_eq_false_iff_not, beq_iff_eq, bne_iff_ne, List.length_map, List.length_take] at hc2; omega))) ?_
      refine sq_plain rfl rfl rfl (w_assign rfl (ev_tmp rfl)) ?_
      refine sq_nil ?_
      refine round_end4 i fr acc v (i + 1) (fr) (acc) (v) ?_ ?_ (le_eq (by first | rfl | (rw [List.map_append]; rfl)) ⟨rfl, rfl, rfl, rfl, rfl, rfl, trivial⟩)
      · exact spOk_miss hinv hx hxc
      · omega
  · intro h11
    have k11 := of_decide_eq_false h11; try simp only [List.length_map] at k11
    have hend := spOk_end hinv (by omega)
    rw [hend]
    refine awp_exit ?_
    refine awp_seq ?_
    refine awp_region ?_
    refine sq_plain rfl rfl rfl (w_move rfl (ev_tmp rfl)) ?_
    refine sq_plain rfl rfl rfl (w_move rfl (ev_tmp rfl)) ?_
    refine sq_plain rfl rfl rfl (w_move rfl (ev_tmp rfl)) ?_
    refine sq_plain rfl rfl rfl (w_ssl_lo rfl Tryd.underlying9 (ev_tmp rfl) (ev_tmp rfl) (by first | omega | ((try simp only [List.length_map, List.length_take, List.length_cons, List.length_nil, chunks_len, szR] at *); omega) | (have hc2 := hc; simp only [Bool.and_eq_true, Bool.or_eq_true, Bool.or_eq_false_iff, Bool.and_eq_false_iff, Bool.not_eq_true', Bool.not_eq_false', decide_eq_true_eq, decide_eq_false_iff_not, beq_iff_eq, bne_iff_ne, List.length_map, List.length_take] at hc2; omega)) (by first | omega | ((try simp only [List.length_map, List.length_take, List.length_cons, List.length_nil, chunks_len, szR] at *); omega) | (have hc2 := hc; simp only [Bool.and_eq_true, Bool.or_eq_true, Bool.or_eq_false_iff, Bool.and_eq_false_iff, Bool.not_eq_true', Bool.not_eq_false', decide_eq_true_eq, decide_eq_false_iff_not, beq_iff_eq, bne_iff_ne, List.length_map, List.length_take] at hc2; omega))) ?_
    refine sq_plain rfl rfl rfl (w_bslice rfl Tryd.underlying30 Tryd.sizeOf9 Tryd.zeroValue9 rfl rfl rfl rfl (bp_cons (ev_tmp rfl) (as_str _) bp_nil) rfl rfl) ?_
    refine sq_append (by' := 16) 0 rfl rfl rfl rfl Tryd.underlying30 Tryd.type9 rfl rfl rfl rfl rfl rfl (ev_tmp rfl) (ev_tmp rfl) rfl (by first | omega | ((try simp only [List.length_map, List.length_take, List.length_cons, List.length_nil, chunks_len, szR] at *); omega) | (have hc2 := hc; simp only [Bool.and_eq_true, Bool.or_eq_true, Bool.or_eq_false_iff, Bool.and_eq_false_iff, Bool.not_eq_true', Bool.not_eq_false', decide_eq_true_eq, decide_eq_false_iff_not, beq_iff_eq, bne_iff_ne, List.length_map, List.length_take] at hc2; omega)) ?_
    intro v33_2
    refine sq_plain rfl rfl rfl (w_assign rfl (ev_tmp rfl)) ?_
    refine sq_nil ?_
    refine awp_ret ?_
    refine ret_seal 0 4 rfl rfl ?_
    exact retR rfl (rv_tmp' rfl (by first | rfl | (unfold strs; rw [List.map_append]; rfl)))
end Go.Proofs.YtdgoejkijpllpaaDoor

set_option linter.unusedVariables false
set_option linter.unusedSimpArgs false
set_option maxRecDepth 100000
set_option maxHeartbeats 1000000
namespace Go.M
open Go.AV
theorem two_of {l : List Str} (h : l.length = 2) : ∃ a b, l = [a, b] := by
  match l, h with
  | [a, b], _ => exact ⟨a, b, rfl⟩
theorem splitC_sum {c : UInt8} : ∀ s : Str, ((splitC c s).map List.length).sum ≤ s.length
  | [] => by simp [splitC]
  | b :: s => by
    have ih := splitC_sum (c := c) s
    rw [splitC_cons]
    split
    · simp; omega
    · cases hs : splitC c s with
      | nil => exact absurd hs (splitC_ne c s)
      | cons w ws =>
        rw [hs] at ih
        simp [addP] at ih ⊢
        omega
end Go.M
namespace Go.Proofs.YtdgoejkijpllpaaDoor
open Go Go.AV Go.M
attribute [local irreducible] OpW OpA OpS AWP FSpec ESpec GSpec OpE RetOk RetOkG RvDen Le Ev GuardIs SrcIs Int.tmod Int.tdiv IntKind.wrap
end Go.Proofs.YtdgoejkijpllpaaDoor

set_option linter.unusedVariables false
set_option linter.unusedSimpArgs false
namespace Go.M
open Go.AV
def od (ws : List Str) : Nat → List Str
  | 0 => []
  | i + 1 => if i % 2 = 1 then od ws i ++ [(ws[i]?).getD []] else od ws i
def ev (ws : List Str) : Nat → List Str
  | 0 => []
  | i + 1 => if i % 2 = 1 then ev ws i else ev ws i ++ [(ws[i]?).getD []]
theorem od_odd {ws : List Str} {i : Nat} {x : Str} (hx : ws[i]? = some x) (h : i % 2 = 1) : od ws (i + 1) = od ws i ++ [x] := by
  show (if i % 2 = 1 then od ws i ++ [(ws[i]?).getD []] else od ws i) = _
  rw [if_pos h, hx]; rfl
theorem od_even {ws : List Str} {i : Nat} (h : ¬ i % 2 = 1) : od ws (i + 1) = od ws i := if_neg h
theorem ev_odd {ws : List Str} {i : Nat} (h : i % 2 = 1) : ev ws (i + 1) = ev ws i := if_pos h
theorem ev_even {ws : List Str} {i : Nat} {x : Str} (hx : ws[i]? = some x) (h : ¬ i % 2 = 1) : ev ws (i + 1) = ev ws i ++ [x] := by
  show (if i % 2 = 1 then ev ws i else ev ws i ++ [(ws[i]?).getD []]) = _
  rw [if_neg h, hx]; rfl
theorem od_app (l r : List Str) : ∀ i, i ≤ l.length → od (l ++ r) i = od l i
  | 0, _ => rfl
  | i + 1, h => by
    have ih := od_app l r i (by omega)
    show (if i % 2 = 1 then od (l ++ r) i ++ [((l ++ r)[i]?).getD []] else od (l ++ r) i) = (if i % 2 = 1 then od l i ++ [(l[i]?).getD []] else od l i)
    rw [ih, List.getElem?_append_left (by omega)]
theorem ev_app (l r : List Str) : ∀ i, i ≤ l.length → ev (l ++ r) i = ev l i
  | 0, _ => rfl
  | i + 1, h => by
    have ih := ev_app l r i (by omega)
    show (if i % 2 = 1 then ev (l ++ r) i else ev (l ++ r) i ++ [((l ++ r)[i]?).getD []]) = (if i % 2 = 1 then ev l i else ev l i ++ [(l[i]?).getD []])
    rw [ih, List.getElem?_append_left (by omega)]
theorem od_len (ws : List Str) : ∀ i, (od ws i).length ≤ i
  | 0 => Nat.le_refl _
  | i + 1 => by
    have := od_len ws i
    show (if i % 2 = 1 then od ws i ++ [(ws[i]?).getD []] else od ws i).length ≤ _
    split
    · simp; omega
    · omega
theorem ev_len (ws : List Str) : ∀ i, (ev ws i).length ≤ i
  | 0 => Nat.le_refl _
  | i + 1 => by
    have := ev_len ws i
    show (if i % 2 = 1 then ev ws i else ev ws i ++ [(ws[i]?).getD []]).length ≤ _
    split
    · omega
    · simp; omega
theorem od_sum (ws : List Str) : ∀ i, ((od ws i).map List.length).sum ≤ ((ws.take i).map List.length).sum
  | 0 => Nat.le_refl _
  | i + 1 => by
    have ih := od_sum ws i
    have e : ((ws.take (i + 1)).map List.length).sum = ((ws.take i).map List.length).sum + ((ws[i]?).getD []).length := by
      rw [List.take_add_one, List.map_append, List.sum_append]
      cases ws[i]? <;> simp
    rw [e]
    show ((if i % 2 = 1 then od ws i ++ [(ws[i]?).getD []] else od ws i).map List.length).sum ≤ _
    split
    · rw [List.map_append, List.sum_append]
      simp only [List.map_cons, List.map_nil, List.sum_cons, List.sum_nil]
      omega
    · omega
def interl (cs gs : List Str) : Nat → List Str
  | 0 => [(gs[0]?).getD []]
  | i + 1 => interl cs gs i ++ [(cs[i]?).getD [], (gs[i + 1]?).getD []]
theorem interl_len (cs gs : List Str) : ∀ i, (interl cs gs i).length = 2 * i + 1
  | 0 => rfl
  | i + 1 => by show (interl cs gs i ++ [_, _]).length = _; rw [List.length_append, interl_len cs gs i]; simp; omega
theorem interl_od (cs gs : List Str) : ∀ i, i ≤ cs.length → od (interl cs gs i) (2 * i + 1) = cs.take i
  | 0, _ => rfl
  | i + 1, h => by
    have ih := interl_od cs gs i (by omega)
    have hl := interl_len cs gs i
    have e : interl cs gs (i + 1) = interl cs gs i ++ [(cs[i]?).getD [], (gs[i + 1]?).getD []] := rfl
    have hc : cs[i]? = some cs[i] := List.getElem?_eq_getElem (by omega)
    rw [e, show 2 * (i + 1) + 1 = (2 * i + 1 + 1) + 1 by omega, od_even (by omega), od_odd (x := cs[i]) (by rw [List.getElem?_append_right (by omega), hl]; simp [hc]) (by omega), od_app _ _ _ (by omega), ih, List.take_add_one, hc]; rfl
theorem interl_ev (cs gs : List Str) : ∀ i, i + 1 ≤ gs.length → ev (interl cs gs i) (2 * i + 1) = gs.take (i + 1)
  | 0, h => by
    cases gs with
    | nil => simp at h
    | cons g gs => rfl
  | i + 1, h => by
    have ih := interl_ev cs gs i (by omega)
    have hl := interl_len cs gs i
    have e : interl cs gs (i + 1) = interl cs gs i ++ [(cs[i]?).getD [], (gs[i + 1]?).getD []] := rfl
    have hg : gs[i + 1]? = some gs[i + 1] := List.getElem?_eq_getElem (by omega)
    rw [e, show 2 * (i + 1) + 1 = (2 * i + 1 + 1) + 1 by omega, ev_even (x := gs[i + 1]) (by rw [List.getElem?_append_right (by omega), hl, show 2 * i + 1 + 1 - (2 * i + 1) = 1 by omega]; simp [hg]) (by omega), ev_odd (by omega), ev_app _ _ _ (by omega), ih, show gs.take (i + 1 + 1) = gs.take (i + 1) ++ [gs[i + 1]] by (rw [List.take_add_one, hg]; rfl)]
theorem splitC_snoc {c : UInt8} {b : Str} (hb : c ∉ b) : ∀ a : Str, splitC c (a ++ c :: b) = splitC c a ++ [b]
  | [] => by show splitC c (c :: b) = _; rw [splitC_cons, if_pos rfl, splitC_no hb]; rfl
  | x :: a => by
    show splitC c (x :: (a ++ c :: b)) = _
    rw [splitC_cons, splitC_cons, splitC_snoc hb a]
    split
    · rfl
    · cases hs : splitC c a with
      | nil => exact absurd hs (splitC_ne c a)
      | cons w ws => rfl
def bodyP (p : TPlaces) : Nat → Str
  | 0 => []
  | i + 1 => (if 0 < i then bodyP p i ++ (([124] ++ (p.Cuts[i - 1]?).getD []) ++ [124]) else bodyP p i) ++ decD ((p.Groups[i]?).getD 0).toNat
theorem plB_body (p : TPlaces) : ∀ i, plB p i = decD p.Ver.toNat ++ 32 :: bodyP p i
  | 0 => rfl
  | i + 1 => by
    show (if 0 < i then plB p i ++ (([124] ++ (p.Cuts[i - 1]?).getD []) ++ [124]) else plB p i) ++ decD ((p.Groups[i]?).getD 0).toNat = _
    rw [plB_body p i]
    show _ = decD p.Ver.toNat ++ 32 :: ((if 0 < i then bodyP p i ++ (([124] ++ (p.Cuts[i - 1]?).getD []) ++ [124]) else bodyP p i) ++ decD ((p.Groups[i]?).getD 0).toNat)
    split <;> simp
theorem cuts_no (p : TPlaces) (h : goodPlaces p = true) {c : UInt8} (hn : (lowDig c || ([46, 47] : Str).any fun d => ((c.toNat : Int) == (d.toNat : Int))) = false) (i : Nat) : c ∉ (p.Cuts[i]?).getD [] := by
  cases hx : p.Cuts[i]? with
  | none => simp
  | some k =>
    have hk := List.all_eq_true.1 (good_facts h).2.2.2.2.2 k (List.mem_of_getElem? hx)
    rw [goodKey_eq] at hk
    unfold l3Key at hk
    simp only [Bool.and_eq_true] at hk
    exact l3_no hk.2 hn
theorem body_no (p : TPlaces) (h : goodPlaces p = true) : ∀ i, (32 : UInt8) ∉ bodyP p i
  | 0 => by simp [bodyP]
  | i + 1 => by
    have ih := body_no p h i
    show (32 : UInt8) ∉ (if 0 < i then bodyP p i ++ (([124] ++ (p.Cuts[i - 1]?).getD []) ++ [124]) else bodyP p i) ++ decD ((p.Groups[i]?).getD 0).toNat
    refine not_app ?_ (dec_no (by decide))
    split
    · exact not_app ih (not_app (not_app (by decide) (cuts_no p h (by decide) _)) (by decide))
    · exact ih
theorem body_split (p : TPlaces) (h : goodPlaces p = true) : ∀ i, i + 1 ≤ p.Groups.length → splitC 124 (bodyP p (i + 1)) = interl p.Cuts (p.Groups.map fun g => decD g.toNat) i
  | 0, hi => by
    have e : bodyP p 1 = decD ((p.Groups[0]?).getD 0).toNat := rfl
    rw [e, splitC_no (dec_no (by decide))]
    show _ = [((p.Groups.map fun g => decD g.toNat)[0]?).getD []]
    rw [List.getElem?_map, List.getElem?_eq_getElem (by omega)]; rfl
  | i + 1, hi => by
    have ih := body_split p h i (by omega)
    have e : bodyP p (i + 1 + 1) = (bodyP p (i + 1) ++ 124 :: (p.Cuts[i]?).getD []) ++ 124 :: decD ((p.Groups[i + 1]?).getD 0).toNat := by
      show (if 0 < i + 1 then bodyP p (i + 1) ++ (([124] ++ (p.Cuts[i + 1 - 1]?).getD []) ++ [124]) else bodyP p (i + 1)) ++ decD ((p.Groups[i + 1]?).getD 0).toNat = _
      rw [if_pos (by omega), Nat.add_sub_cancel]; simp
    rw [e, splitC_snoc (dec_no (by decide)), splitC_snoc (cuts_no p h (by decide) _), ih]
    show _ = interl p.Cuts _ i ++ [(p.Cuts[i]?).getD [], ((p.Groups.map fun g => decD g.toNat)[i + 1]?).getD []]
    rw [List.getElem?_map, List.getElem?_eq_getElem (show i + 1 < p.Groups.length by omega)]
    simp
def readsI (ws : List Str) : List Int := ws.map fun t => (readI t 0 3).1
def readsOk (ws : List Str) : Bool := ws.all fun t => (readI t 0 3).2
def placeOf (s : Str) : TPlaces := ⟨(readI (Lib.cut s [32]).1 0 50).1, od (splitC 124 (Lib.cut s [32]).2.1) (splitC 124 (Lib.cut s [32]).2.1).length, readsI (ev (splitC 124 (Lib.cut s [32]).2.1) (splitC 124 (Lib.cut s [32]).2.1).length)⟩
def placeOk (s : Str) : Bool := (readI (Lib.cut s [32]).1 0 50).2 && readsOk (ev (splitC 124 (Lib.cut s [32]).2.1) (splitC 124 (Lib.cut s [32]).2.1).length)
def parseP (s : Str) : TPlaces × Bool := if ((!placeOk s || !goodPlaces (placeOf s)) || (placesB (placeOf s) != s)) = true then (noPlaces, false) else (placeOf s, true)
def placeS (a b : Str) : TPlaces := ⟨l1R a, od (splitC 124 b) (splitC 124 b).length, (ev (splitC 124 b) (splitC 124 b).length).map l1R⟩
def parsePS (s : Str) : TPlaces × Bool := match splitC 32 s with
  | [a, b] => if (!goodPlacesS (placeS a b) || (placesB (placeS a b) != s)) = true then (noPlaces, false) else (placeS a b, true)
  | _ => (noPlaces, false)
theorem placesB_body {p : TPlaces} (h : goodPlaces p = true) : ∃ n, p.Groups.length = n + 1 ∧ p.Cuts.length = n ∧ placesB p = decD p.Ver.toNat ++ 32 :: bodyP p (n + 1) := by
  obtain ⟨_, _, _, h4, _, _⟩ := good_facts h
  exact ⟨p.Cuts.length, h4, rfl, by unfold placesB; rw [plB_body, h4]⟩
theorem map_back {p : TPlaces} (h : goodPlaces p = true) {f : Str → Int} (hf : ∀ g : Nat, g ≤ 3 → f (decD g) = (g : Int)) : ((p.Groups.map fun g => decD g.toNat).map f) = p.Groups := by
  rw [List.map_map]
  have := pg_groups h
  conv => rhs; rw [← List.map_id p.Groups]
  refine List.map_congr_left fun g hg => ?_
  obtain ⟨h1, h2⟩ := this g hg
  show f (decD g.toNat) = g
  rw [hf g.toNat (by omega)]; omega
theorem parseP_text {p : TPlaces} (h : goodPlaces p = true) : parseP (placesB p) = (p, true) ∧ parsePS (placesB p) = (p, true) := by
  obtain ⟨hv1, hv2, _, _, _, _⟩ := good_facts h
  obtain ⟨n, hn, hc, hb⟩ := placesB_body h
  have hbs := body_split p h n (by omega)
  have hv : (p.Ver.toNat : Int) = p.Ver := by omega
  have hlen : (splitC 124 (bodyP p (n + 1))).length = 2 * n + 1 := by rw [hbs, interl_len]
  have ho : od (splitC 124 (bodyP p (n + 1))) (splitC 124 (bodyP p (n + 1))).length = p.Cuts := by rw [hlen, hbs, interl_od _ _ n (by omega), List.take_of_length_le (by omega)]
  have he : ev (splitC 124 (bodyP p (n + 1))) (splitC 124 (bodyP p (n + 1))).length = p.Groups.map fun g => decD g.toNat := by rw [hlen, hbs, interl_ev _ _ n (by rw [List.length_map]; omega), List.take_of_length_le (by rw [List.length_map]; omega)]
  have hrd : ∀ g : Nat, g ≤ 3 → readI (decD g) 0 3 = ((g : Int), true) := fun g hg => readI_dec (by omega) (by unfold within; simp; omega)
  have hr1 : readsI (p.Groups.map fun g => decD g.toNat) = p.Groups := map_back h fun g hg => by rw [hrd g hg]
  have hr2 : readsOk (p.Groups.map fun g => decD g.toNat) = true := by
    unfold readsOk
    rw [List.all_map, List.all_eq_true]
    intro g hg
    have := pg_groups h g hg
    show (readI (decD g.toNat) 0 3).2 = true
    rw [hrd g.toNat (by omega)]
  have hrv : readI (decD p.Ver.toNat) 0 50 = (p.Ver, true) := by rw [readI_dec (by omega) (by unfold within; simp; omega), hv]
  have hcut : Lib.cut (placesB p) [32] = (decD p.Ver.toNat, bodyP p (n + 1), true) := by rw [hb, cut_at _ (dec_no (by decide))]
  have hp : placeOf (placesB p) = p := by
    unfold placeOf
    rw [hcut]
    dsimp only
    rw [ho, he, hrv, hr1]
  have hok : placeOk (placesB p) = true := by
    unfold placeOk
    rw [hcut]
    dsimp only
    rw [he, hrv, hr2]; rfl
  have hsp : splitC 32 (placesB p) = [decD p.Ver.toNat, bodyP p (n + 1)] := by rw [hb, splitC_app _ (dec_no (by decide)), splitC_no (body_no p h _)]
  have hps : placeS (decD p.Ver.toNat) (bodyP p (n + 1)) = p := by
    unfold placeS
    rw [ho, he, l1R_dec (by omega), hv, map_back h fun g hg => l1R_dec (by omega)]
  constructor
  · unfold parseP
    rw [hp, hok, h, if_neg (by simp)]
  · unfold parsePS
    rw [hsp]
    dsimp only
    rw [hps, ← goodPlaces_eq, h, if_neg (by simp)]
theorem parseP_cases (s : Str) : parseP s = (noPlaces, false) ∨ ((parseP s).2 = true ∧ goodPlaces (parseP s).1 = true ∧ placesB (parseP s).1 = s) := by
  unfold parseP
  split
  · exact .inl rfl
  · rename_i h
    refine .inr ⟨rfl, ?_⟩
    simp only [Bool.or_eq_true, Bool.not_eq_true', bne_iff_ne, not_or, Bool.not_eq_false, Decidable.not_not] at h
    exact ⟨by simpa using h.1.2, by simpa using h.2⟩
theorem parsePS_cases (s : Str) : parsePS s = (noPlaces, false) ∨ ((parsePS s).2 = true ∧ goodPlaces (parsePS s).1 = true ∧ placesB (parsePS s).1 = s) := by
  unfold parsePS
  split
  · split
    · exact .inl rfl
    · rename_i h
      refine .inr ⟨rfl, ?_⟩
      simp only [Bool.or_eq_true, Bool.not_eq_true', bne_iff_ne, not_or, Bool.not_eq_false, Decidable.not_not] at h
      rw [goodPlaces_eq]
      exact ⟨by simpa using h.1, by simpa using h.2⟩
  · exact .inl rfl
theorem parseP_eq (s : Str) : parseP s = parsePS s := by
  rcases parseP_cases s with h | ⟨_, h2, h3⟩
  · rcases parsePS_cases s with k | ⟨_, k2, k3⟩
    · rw [h, k]
    · have := parseP_text k2
      rw [k3] at this
      rw [this.1, this.2]
  · have := parseP_text h2
    rw [h3] at this
    rw [this.1, this.2]
end Go.M

set_option linter.unusedVariables false
set_option linter.unusedSimpArgs false
set_option maxRecDepth 100000
set_option maxHeartbeats 1000000
namespace Go.M
open Go.AV
theorem splitC_cnt {c : UInt8} : ∀ s : Str, (splitC c s).length ≤ s.length + 1
  | [] => by simp [splitC]
  | b :: s => by
    have ih := splitC_cnt (c := c) s
    rw [splitC_cons]
    split
    · simp; omega
    · cases hs : splitC c s with
      | nil => exact absurd hs (splitC_ne c s)
      | cons w ws => rw [hs] at ih; simp [addP] at ih ⊢; omega
theorem sumT (l : List Str) : sizeL (fun x : Str => x.length) l = l.length + (l.map List.length).sum := rfl
theorem place_size (ws : List Str) (n : Nat) (hc : ws.length ≤ n + 1) (hs : (ws.map List.length).sum ≤ n) (v : Int) (f : Str → Int) (i : Nat) : (TPlaces.size ⟨v, od ws i, (ev ws i).map f⟩) ≤ 2 * i + n := by
  unfold TPlaces.size
  dsimp only
  rw [sumT, List.length_map]
  have h1 := od_len ws i
  have h2 := ev_len ws i
  have h3 := od_sum ws i
  have h4 : ((ws.take i).map List.length).sum ≤ (ws.map List.length).sum := by
    conv => rhs; rw [← List.take_append_drop i ws]
    rw [List.map_append, List.sum_append]; omega
  omega
theorem all_snoc (f : Str → Bool) (l : List Str) (x : Str) : (l ++ [x]).all f = (l.all f && f x) := by simp [List.all_append]
theorem mod2 (i : Nat) : ((i : Int).tmod 2 == 1) = decide (i % 2 = 1) := by
  rw [show (i : Int).tmod 2 = ((i % 2 : Nat) : Int) from rfl]
  by_cases h : i % 2 = 1
  · rw [h]; rfl
  · have h2 : i % 2 = 0 := by omega
    rw [h2]; rfl
theorem parsePS_not {s : Str} (h : (splitC 32 s).length ≠ 2) : parsePS s = (noPlaces, false) := by
  unfold parsePS
  split
  · rename_i e; rw [e] at h; exact absurd rfl h
  · rfl
theorem parsePS_two {s a b : Str} (h : splitC 32 s = [a, b]) : parsePS s = if (!goodPlacesS (placeS a b) || (placesB (placeS a b) != s)) = true then (noPlaces, false) else (placeS a b, true) := by unfold parsePS; rw [h]
end Go.M
namespace Go.AV
section
variable {P : Program} {G : Nat → Prop} {n : Nat} {own : List Own}
theorem le_retag {env : List (Nat × AV)} {t : Nat} {x : AV} {T T' : World → Prop} (i : Nat) (hi : own[i]? = some (.tab T')) (hT : ∀ w, T' w → T w) (ht : getv t env = some x) : Le G n ⟨own, env⟩ ⟨own, (t, AV.wt T x) :: env⟩ := fun w0 R0 R a w ⟨h1, h2, h3⟩ => by
  refine ⟨R, RSub.refl _, h1, fun k z hz => ?_, h3⟩
  simp only [getv] at hz
  by_cases hk : t = k
  · subst hk
    simp [Nat.beq_refl] at hz
    rw [← hz]
    exact ⟨h2 t _ ht, fun w' hw' => hT w' ((h1.owned _ (List.mem_of_getElem? hi)) w' hw')⟩
  · rw [nat_beq_ne hk, cond_false] at hz
    exact h2 k z hz
end
end Go.AV
namespace Go.Proofs.YtdgoejkijpllpaaDoor
open Go Go.AV Go.M
attribute [local irreducible] OpW OpA OpS AWP FSpec ESpec GSpec OpE RetOk RetOkG RvDen Le Ev GuardIs SrcIs Int.tmod Int.tdiv IntKind.wrap
theorem readPlaces_own (s : Str) (hs : s.length ≤ 1048576) : GSpec Tryd.prog 24 [AV.wt readW (AV.str s)] [] (fun _ : Value × Value => True) (fun x => TPlaces.ow (parseP s).1 x) (fun x => AV.tup [AV.agg (TPlaces.ocs (parseP s).1 x), AV.bool (parseP s).2]) := by
  have hcl := cutL_len s 32
  refine gspec_of_awp Tryd.func24 rfl Tryd.ntmps24 rfl ?_
  refine AWP.le (le_tab (t := 0) rfl) ?_
  refine awp_seq ?_
  refine awp_region ?_
  refine sq_alloc rfl rfl rfl rfl Tryd.zeroValue36 rfl ?_
  intro b2
  refine sq_plain rfl rfl rfl (w_assign rfl ev_cb) ?_
  refine sq_nil ?_
  refine awp_seq ?_
  refine awp_region ?_
  refine sq_plain rfl rfl rfl (w_move rfl (ev_tmp rfl)) ?_
  refine sq_plain rfl rfl rfl (w_callT 1 rfl rfl Tryd.call45 rfl (cut_spec s 32 hs) (evl_cons (ev_tmp rfl) (evl_cons (ev_cs' (l := [32]) rfl) evl_nil)) (by first | exact fun _ h => h | exact fun _ h => h.1)) ?_
  refine sq_plain rfl rfl rfl (w_move rfl (ev_tmp rfl)) ?_
  refine sq_plain rfl rfl rfl (w_extract rfl (ev_tmp rfl) rfl) ?_
  refine sq_plain rfl rfl rfl (w_extract rfl (ev_tmp rfl) rfl) ?_
  refine sq_plain rfl rfl rfl (w_extract rfl (ev_tmp rfl) rfl) ?_
  refine sq_plain rfl rfl rfl (w_assign rfl (ev_tmp rfl)) ?_
  refine sq_plain rfl rfl rfl (w_assign rfl (ev_tmp rfl)) ?_
  refine sq_plain rfl rfl rfl (w_assign rfl (ev_tmp rfl)) ?_
  refine sq_nil ?_
  refine awp_seq ?_
  refine awp_region ?_
  refine sq_plain rfl rfl rfl (w_move rfl (ev_tmp rfl)) ?_
  refine sq_plain rfl rfl rfl (w_callT 1 rfl rfl Tryd.call44 rfl (readInt_spec _ 0 50 (by omega)) (evl_cons (ev_tmp rfl) (evl_cons ev_ci (evl_cons ev_ci evl_nil))) (by first | exact fun _ h => h | exact fun _ h => h.1)) ?_
  refine sq_plain rfl rfl rfl (w_move rfl (ev_tmp rfl)) ?_
  refine sq_plain rfl rfl rfl (w_extract rfl (ev_tmp rfl) rfl) ?_
  refine sq_plain rfl rfl rfl (w_extract rfl (ev_tmp rfl) rfl) ?_
  refine sq_plain rfl rfl rfl (w_assign rfl (ev_tmp rfl)) ?_
  refine sq_plain rfl rfl rfl (w_assign rfl (ev_tmp rfl)) ?_
  refine sq_nil ?_
  refine awp_seq ?_
  refine awp_region ?_
  refine sq_plain rfl rfl rfl (w_move rfl (ev_tmp rfl)) ?_
  refine sq_plain rfl rfl rfl (w_build (places := #[(0, 1), (1, 1), (2, 1)]) rfl Tryd.underlying36 Tryd.zeroValue36 (fun w => by kernel_rfl) rfl (bp_cons (ev_tmp rfl) (as_ik _ _) bp_nil) rfl) ?_
  refine sq_alloc rfl rfl rfl rfl Tryd.zeroValue36 rfl ?_
  intro b9
  refine sq_storeB0 0 rfl rfl rfl (ev_tmp rfl) (ev_tmp rfl) (as_agg _) rfl Tryd.sizeOf36 rfl ?_
  refine sq_nil ?_
  refine awp_seq ?_
  refine awp_seq ?_
  refine awp_region ?_
  refine sq_plain rfl rfl rfl (w_move rfl (ev_tmp rfl)) ?_
  refine sq_plain rfl rfl rfl (w_callT 2 rfl rfl Tryd.call43 rfl (split_spec _ 124 (by omega)) (evl_cons (ev_tmp rfl) (evl_cons (ev_cs' (l := [124]) rfl) evl_nil)) (by first | exact fun _ h => h | exact fun _ h => h.1)) ?_
  obtain ⟨ws, hws⟩ : ∃ ws, splitC 124 (Lib.cut s [32]).2.1 = ws := ⟨_, rfl⟩
  have hwl := splitC_cnt (c := 124) (Lib.cut s [32]).2.1
  have hwsum := splitC_sum (c := 124) (Lib.cut s [32]).2.1
  rw [hws] at hwl hwsum
  rw [hws]
  refine sq_plain rfl rfl rfl (w_llen rfl Tryd.underlying30 (ev_tmp rfl)) ?_
  refine sq_plain rfl rfl rfl (w_move rfl ev_ci) ?_
  refine sq_nil ?_
  refine awp_block ?_
  refine awp_own (by first | (simp only [id, pick, List.eraseIdx_cons_zero, List.eraseIdx_cons_succ, List.set_cons_zero, List.set_cons_succ, List.cons_append, List.nil_append, List.getElem?_cons_zero, List.getElem?_cons_succ, List.append_nil, List.take_succ_cons, List.take_zero, List.drop_succ_cons, List.drop_zero]; exact rfl) | exact rfl) ?_
  refine awp_nilown 9 1 ?_
  refine awp_nilown 3 1 ?_
  refine AWP.le (le_pick [2, 1, 0] rfl) ?_
  refine awp_loop_i4 [(0, _), (2, _), (3, _), (9, _), (28, _), (29, _)] _ (fun (i : Nat) (ok : Bool) (vc : Value) (vg : Value) => i ≤ ws.length ∧ ok = ((readI (Lib.cut s [32]).1 0 50).2 && readsOk (ev ws i))) (fun (i : Nat) (ok : Bool) (vc : Value) (vg : Value) => [.box b9 36 [AV.int (readI (Lib.cut s [32]).1 0 50).1, AV.is vc, AV.is vg], .arr vc 9 1 ((od ws i).map fun x => [AV.str x]), .arr vg 3 1 ((readsI (ev ws i)).map fun x => [AV.int x])]) (fun (i : Nat) (ok : Bool) (vc : Value) (vg : Value) => [(8, AV.bool ok), (30, AV.int i)]) (fun (i : Nat) (ok : Bool) (vc : Value) (vg : Value) => ws.length - i) (0) ((readI (Lib.cut s [32]).1 0 50).2) ((Value.slice none 0 0)) ((Value.slice none 0 0)) ?_ (le_eq (by rfl) ⟨rfl, rfl, rfl, rfl, rfl, rfl, rfl, rfl, trivial⟩) ?_
  · exact ⟨Nat.zero_le _, by simp [readsOk, ev]⟩
  intro i ok vc vg hinv
  have hol := od_len ws i
  have hel := ev_len ws i
  have hrl : (readsI (ev ws i)).length = (ev ws i).length := List.length_map ..
  refine awp_seq ?_
  refine awp_region ?_
  refine sq_plain rfl rfl rfl (w_lss rfl (ev_tmp rfl) (ev_tmp rfl)) ?_
  refine sq_nil ?_
  refine awp_seq ?_
  refine awp_cond (ev_tmp rfl) ?_ ?_
  · intro h31
    have k31 := of_decide_eq_true h31; try simp only [List.length_map] at k31
    obtain ⟨x, hx⟩ := get_some (show i < ws.length by omega)
    have hxl : x.length ≤ s.length := (by (have h9 := splitC_len (c := 124) (s := (Lib.cut s [32]).2.1) (w := x) (by rw [hws]; exact List.mem_of_getElem? hx)); omega)
    refine awp_skip ?_
    refine awp_seq ?_
    refine awp_block ?_
    refine awp_seq ?_
    refine awp_region ?_
    refine sq_plain rfl rfl rfl (w_move rfl (ev_tmp rfl)) ?_
    refine sq_plain rfl rfl rfl (w_idxm rfl Tryd.underlying30 Tryd.sizeOf9 (ev_tmp rfl) (ev_tmp rfl) hx (by first | omega | ((try simp only [List.length_map, List.length_take, List.length_cons, List.length_nil, chunks_len, szR] at *); omega) | (have hc2 := hc; simp only [Bool.and_eq_true, Bool.or_eq_true, Bool.or_eq_false_iff, Bool.and_eq_false_iff, Bool.not_eq_true', Bool.not_eq_false', decide_eq_true_eq, decide_eq_false_iff_not, beq_iff_eq, bne_iff_ne, List.length_map, List.length_take] at hc2; omega))) ?_
    refine sq_plain rfl rfl rfl (w_loadE1 rfl (ev_tmp rfl) Tryd.isAgg9 rfl) ?_
    refine sq_plain rfl rfl rfl (w_assign rfl (ev_tmp rfl)) ?_
    refine sq_plain rfl rfl rfl (w_assign rfl (ev_tmp rfl)) ?_
    refine sq_nil ?_
    refine awp_seq ?_
    refine awp_seq ?_
    refine awp_region ?_
    refine sq_plain rfl rfl rfl (w_move rfl (ev_tmp rfl)) ?_
    refine sq_plain rfl rfl rfl (w_rem rfl (ev_tmp rfl) ev_ci (by decide)) ?_
    refine sq_plain rfl rfl rfl (w_eql rfl (ev_tmp rfl) ev_ci) ?_
    refine sq_nil ?_
    refine awp_cond (ev_tmp rfl) ?_ ?_
    · intro h37
      have k37 := eq_of_beqt h37; try simp only [List.length_map] at k37
      have hodd : i % 2 = 1 := (by rw [mod2] at h37; simpa using h37)
      refine awp_seq ?_
      refine awp_region ?_
      refine sq_plain rfl rfl rfl (w_fldBn 1 rfl Tryd.underlying36 rfl Tryd.sizeOf30 (ev_tmp rfl) rfl) ?_
      refine sq_plain rfl rfl rfl (w_loadB1 0 rfl (ev_tmp rfl) rfl Tryd.isAgg30 rfl) ?_
      refine sq_plain rfl rfl rfl (w_move rfl (ev_tmp rfl)) ?_
      refine sq_plain rfl rfl rfl (w_bslice rfl Tryd.underlying30 Tryd.sizeOf9 Tryd.zeroValue9 rfl rfl rfl rfl (bp_cons (ev_tmp rfl) (as_str _) bp_nil) rfl rfl) ?_
      refine sq_append (by' := 16) 1 rfl rfl rfl rfl Tryd.underlying30 Tryd.type9 rfl rfl rfl rfl rfl rfl (ev_tmp rfl) (ev_tmp rfl) rfl (by first | omega | ((try simp only [List.length_map, List.length_take, List.length_cons, List.length_nil, chunks_len, szR] at *); omega) | (have hc2 := hc; simp only [Bool.and_eq_true, Bool.or_eq_true, Bool.or_eq_false_iff, Bool.and_eq_false_iff, Bool.not_eq_true', Bool.not_eq_false', decide_eq_true_eq, decide_eq_false_iff_not, beq_iff_eq, bne_iff_ne, List.length_map, List.length_take] at hc2; omega)) ?_
      intro v42_1
      refine sq_plain rfl rfl rfl (w_fldBn 1 rfl Tryd.underlying36 rfl Tryd.sizeOf30 (ev_tmp rfl) rfl) ?_
      refine sq_fact 1 rfl fun one_v42_1 => ?_
      refine sq_storeB1 0 rfl rfl rfl (ev_tmp rfl) (ev_tmp rfl) (as_is one_v42_1) rfl Tryd.sizeOf30 rfl ?_
      refine sq_nil ?_
      refine awp_exit ?_
      refine awp_region ?_
      refine sq_plain rfl rfl rfl (w_addi rfl (ev_tmp rfl) ev_ci (by first | omega | ((try simp only [List.length_map, List.length_take, List.length_cons, List.length_nil, chunks_len, szR] at *); omega) | (have hc2 := hc; simp only [Bool.and_eq_true, Bool.or_eq_true, Bool.or_eq_false_iff, Bool.and_eq_false_iff, Bool.not_eq_true', Bool.not_eq_false', decide_eq_true_eq, decide_eq_false_iff_not, beq_iff_eq, bne_iff_ne, List.length_map, List.length_take] at hc2; omega))) ?_
      refine sq_plain rfl rfl rfl (w_move rfl (ev_tmp rfl)) ?_
      refine sq_nil ?_
      refine round_end4 i ok vc vg (i + 1) (ok) (v42_1) (vg) ?_ ?_ (Le.trans (le_pick [0, 0, 0] rfl) (le_eq (by first | (rw [od_odd hx hodd, ev_odd hodd, List.map_append]; rfl) | (rw [od_even hodd, ev_even hx hodd]; unfold readsI; rw [List.map_append, List.map_append]; rfl)) ⟨rfl, rfl, rfl, rfl, rfl, rfl, rfl, rfl, trivial⟩))
      · exact ⟨by omega, by rw [ev_odd hodd]; exact hinv.2⟩
      · omega
    · intro h37
      have k37 := ne_of_beqf h37; try simp only [List.length_map] at k37
      have hodd : ¬ i % 2 = 1 := (by rw [mod2] at h37; simpa using h37)
      refine awp_skip ?_
      refine awp_seq ?_
      refine awp_region ?_
      refine sq_plain rfl rfl rfl (w_move rfl (ev_tmp rfl)) ?_
      refine sq_plain rfl rfl rfl (w_callT 4 rfl rfl Tryd.call44 rfl (readInt_spec x 0 3 (by omega)) (evl_cons (ev_tmp rfl) (evl_cons ev_ci (evl_cons ev_ci evl_nil))) (by first | exact fun _ h => h | exact fun _ h => h.1)) ?_
      refine sq_plain rfl rfl rfl (w_move rfl (ev_tmp rfl)) ?_
      refine sq_plain rfl rfl rfl (w_extract rfl (ev_tmp rfl) rfl) ?_
      refine sq_plain rfl rfl rfl (w_extract rfl (ev_tmp rfl) rfl) ?_
      refine sq_plain rfl rfl rfl (w_assign rfl (ev_tmp rfl)) ?_
      refine sq_plain rfl rfl rfl (w_assign rfl (ev_tmp rfl)) ?_
      refine sq_nil ?_
      refine awp_seq ?_
      refine awp_region ?_
      refine sq_plain rfl rfl rfl (w_move rfl (ev_tmp rfl)) ?_
      refine sq_plain rfl rfl rfl (w_move rfl (ev_tmp rfl)) ?_
      refine sq_grd rfl rfl (guard_t rfl rfl rfl) (fun hc => w_move rfl (ev_tmp rfl)) ?_
      refine sq_plain rfl rfl rfl (w_and rfl (ev_tmp rfl) (evif_w rfl)) ?_
      refine sq_plain rfl rfl rfl (w_assign rfl (ev_tmp rfl)) ?_
      refine sq_nil ?_
      refine awp_region ?_
      refine sq_plain rfl rfl rfl (w_fldBn 2 rfl Tryd.underlying36 rfl Tryd.sizeOf31 (ev_tmp rfl) rfl) ?_
      refine sq_plain rfl rfl rfl (w_loadB1 0 rfl (ev_tmp rfl) rfl Tryd.isAgg31 rfl) ?_
      refine sq_plain rfl rfl rfl (w_move rfl (ev_tmp rfl)) ?_
      refine sq_plain rfl rfl rfl (w_bslice rfl Tryd.underlying31 Tryd.sizeOf3 Tryd.zeroValue3 rfl rfl rfl rfl (bp_cons (ev_tmp rfl) (as_ik _ _) bp_nil) rfl rfl) ?_
      refine sq_append (by' := 8) 2 rfl rfl rfl rfl Tryd.underlying31 Tryd.type3 rfl rfl rfl rfl rfl rfl (ev_tmp rfl) (ev_tmp rfl) rfl (by first | omega | ((try simp only [List.length_map, List.length_take, List.length_cons, List.length_nil, chunks_len, szR] at *); omega) | (have hc2 := hc; simp only [Bool.and_eq_true, Bool.or_eq_true, Bool.or_eq_false_iff, Bool.and_eq_false_iff, Bool.not_eq_true', Bool.not_eq_false', decide_eq_true_eq, decide_eq_false_iff_not, beq_iff_eq, bne_iff_ne, List.length_map, List.length_take] at hc2; omega)) ?_
      intro v57_2
      refine sq_plain rfl rfl rfl (w_fldBn 2 rfl Tryd.underlying36 rfl Tryd.sizeOf31 (ev_tmp rfl) rfl) ?_
      refine sq_fact 2 rfl fun one_v57_2 => ?_
      refine sq_storeB1 0 rfl rfl rfl (ev_tmp rfl) (ev_tmp rfl) (as_is one_v57_2) rfl Tryd.sizeOf31 rfl ?_
      refine sq_nil ?_
      refine awp_region ?_
      refine sq_plain rfl rfl rfl (w_addi rfl (ev_tmp rfl) ev_ci (by first | omega | ((try simp only [List.length_map, List.length_take, List.length_cons, List.length_nil, chunks_len, szR] at *); omega) | (have hc2 := hc; simp only [Bool.and_eq_true, Bool.or_eq_true, Bool.or_eq_false_iff, Bool.and_eq_false_iff, Bool.not_eq_true', Bool.not_eq_false', decide_eq_true_eq, decide_eq_false_iff_not, beq_iff_eq, bne_iff_ne, List.length_map, List.length_take] at hc2; omega))) ?_
      refine sq_plain rfl rfl rfl (w_move rfl (ev_tmp rfl)) ?_
      refine sq_nil ?_
      refine round_end4 i ok vc vg (i + 1) (ok && (readI x 0 3).2) (vc) (v57_2) ?_ ?_ (Le.trans (le_pick [0, 0, 0] rfl) (le_eq (by first | (rw [od_odd hx hodd, ev_odd hodd, List.map_append]; rfl) | (rw [od_even hodd, ev_even hx hodd]; unfold readsI; rw [List.map_append, List.map_append]; rfl)) ⟨rfl, rfl, rfl, rfl, rfl, rfl, rfl, rfl, trivial⟩))
      · exact ⟨by omega, by rw [ev_even hx hodd, hinv.2]; unfold readsOk; rw [all_snoc, Bool.and_assoc]⟩
      · omega
  · intro h31
    have k31 := of_decide_eq_false h31; try simp only [List.length_map] at k31
    have hin : i = ws.length := by omega
    subst hin
    have hpo : placeOf s = ⟨(readI (Lib.cut s [32]).1 0 50).1, od ws ws.length, readsI (ev ws ws.length)⟩ := (by unfold placeOf; rw [hws])
    have hok : placeOk s = ok := (by unfold placeOk; rw [hws]; exact hinv.2.symm)
    have hpz := place_size ws (Lib.cut s [32]).2.1.length hwl hwsum (readI (Lib.cut s [32]).1 0 50).1 (fun t => (readI t 0 3).1) ws.length
    refine awp_exit ?_
    refine awp_seq ?_
    refine awp_seq ?_
    refine awp_region ?_
    refine sq_plain rfl rfl rfl (w_move rfl (ev_tmp rfl)) ?_
    refine sq_plain rfl rfl rfl (w_not rfl (ev_tmp rfl)) ?_
    refine sq_plain rfl rfl rfl (w_move rfl (ev_tmp rfl)) ?_
    refine sq_grd rfl rfl (guard_f rfl rfl rfl) (fun hc => w_loadA 0 rfl (ev_tmp rfl) rfl Tryd.isAgg36 Tryd.sizeOf36 rfl) ?_
    refine sq_grd rfl rfl (guard_f rfl rfl rfl) (fun hc => w_callB rfl Tryd.call37 rfl (goodPlaces_spec ⟨(readI (Lib.cut s [32]).1 0 50).1, od ws ws.length, readsI (ev ws ws.length)⟩ (Nat.le_trans hpz (by omega))) (flat_bool _) (evlb_cons (evb_lt (ev_whn rfl hc) (lt_agg (lc_cons lt_refl (lc_cons (lt_arr (List.mem_of_getElem? (i := 1) rfl) le_refl_e) (lc_cons (lt_arr (List.mem_of_getElem? (i := 2) rfl) le_refl_e) lc_nil))))) evlb_nil)) ?_
    refine sq_grd rfl rfl (guard_f rfl rfl rfl) (fun hc => w_not rfl (ev_whn rfl hc)) ?_
    refine sq_plain rfl rfl rfl (w_or rfl (ev_tmp rfl) (evif_w rfl)) ?_
    refine sq_plain rfl rfl rfl (w_move rfl (ev_tmp rfl)) ?_
    refine sq_grd rfl rfl (guard_f rfl rfl rfl) (fun hc => w_loadA 0 rfl (ev_tmp rfl) rfl Tryd.isAgg36 Tryd.sizeOf36 rfl) ?_
    refine sq_grd rfl rfl (guard_f rfl rfl rfl) (fun hc => w_callB rfl Tryd.call38 rfl (placesText_spec ⟨(readI (Lib.cut s [32]).1 0 50).1, od ws ws.length, readsI (ev ws ws.length)⟩ (Nat.le_trans hpz (by omega)) (by simp only [Bool.not_eq_true', Bool.or_eq_false_iff, Bool.not_eq_false'] at hc; exact hc.2)) (flat_str _) (evlb_cons (evb_lt (ev_whn rfl hc) (lt_agg (lc_cons lt_refl (lc_cons (lt_arr (List.mem_of_getElem? (i := 1) rfl) le_refl_e) (lc_cons (lt_arr (List.mem_of_getElem? (i := 2) rfl) le_refl_e) lc_nil))))) evlb_nil)) ?_
    refine sq_grd rfl rfl (guard_f rfl rfl rfl) (fun hc => w_move rfl (ev_tmp rfl)) ?_
    refine sq_grd rfl rfl (guard_f rfl rfl rfl) (fun hc => w_sneq rfl (ev_whn rfl hc) (ev_whn rfl hc)) ?_
    refine sq_plain rfl rfl rfl (w_or rfl (ev_tmp rfl) (evif_w rfl)) ?_
    refine sq_nil ?_
    refine awp_cond (ev_tmp rfl) ?_ ?_
    · intro h72
      have he : parseP s = (noPlaces, false) := if_pos (by rw [hok, hpo]; exact h72)
      rw [he]
      refine awp_seq ?_
      refine awp_region ?_
      refine sq_plain rfl rfl rfl (w_build (places := #[(0, 1), (1, 1), (2, 1)]) rfl Tryd.underlying36 Tryd.zeroValue36 (fun w => by kernel_rfl) rfl bp_nil rfl) ?_
      refine sq_storeB0 3 rfl rfl rfl (ev_tmp rfl) (ev_tmp rfl) (as_agg _) rfl Tryd.sizeOf36 rfl ?_
      refine sq_plain rfl rfl rfl (w_assign rfl ev_cb) ?_
      refine sq_nil ?_
      refine awp_ret ?_
      refine retG_nil 9 1 ?_
      refine retG_nil 3 1 ?_
      exact retG [1, 0] ((Value.slice none 0 0), (Value.slice none 0 0)) (trivial) rfl (by rfl) (resN rfl (by decide) (rv_cons (rv_cell (ys := _) 5 rfl rfl Tryd.isAgg36 Tryd.sizeOf36 rfl) (rv_cons (rv_tmp' rfl (by rfl)) rv_nil)))
    · intro h72
      have he : parseP s = (placeOf s, true) := if_neg (by rw [hok, hpo, h72]; decide)
      rw [he, hpo]
      refine awp_skip ?_
      refine awp_seq ?_
      refine awp_region ?_
      refine sq_plain rfl rfl rfl (w_loadA 0 rfl (ev_tmp rfl) rfl Tryd.isAgg36 Tryd.sizeOf36 rfl) ?_
      refine sq_storeB0 3 rfl rfl rfl (ev_tmp rfl) (ev_tmp rfl) (as_agg _) rfl Tryd.sizeOf36 rfl ?_
      refine sq_plain rfl rfl rfl (w_assign rfl ev_cb) ?_
      refine sq_nil ?_
      refine awp_ret ?_
      exact retG [1, 1] (vc, vg) (trivial) rfl (by rfl) (resN rfl (by decide) (rv_cons (rv_cell (ys := _) 3 rfl rfl Tryd.isAgg36 Tryd.sizeOf36 rfl) (rv_cons (rv_tmp' rfl (by rfl)) rv_nil)))
theorem readPlacesS_own (s : Str) (hs : s.length ≤ 1048576) : GSpec Tryd.prog 23 [AV.str s] [] (fun _ : Value × Value => True) (fun x => TPlaces.ow (parsePS s).1 x) (fun x => AV.tup [AV.agg (TPlaces.ocs (parsePS s).1 x), AV.bool (parsePS s).2]) := by
  refine gspec_of_awp Tryd.func23 rfl Tryd.ntmps23 rfl ?_
  refine awp_seq ?_
  refine awp_region ?_
  refine sq_alloc rfl rfl rfl rfl Tryd.zeroValue36 rfl ?_
  intro b2
  refine sq_plain rfl rfl rfl (w_assign rfl ev_cb) ?_
  refine sq_nil ?_
  refine awp_seq ?_
  refine awp_region ?_
  refine sq_plain rfl rfl rfl (w_move rfl (ev_tmp rfl)) ?_
  refine sq_plain rfl rfl rfl (w_call rfl Tryd.call41 rfl (l1Split_spec s 32 hs) (evl_cons (ev_tmp rfl) (evl_cons ev_ci evl_nil))) ?_
  refine sq_plain rfl rfl rfl (w_assign rfl (ev_tmp rfl)) ?_
  refine sq_nil ?_
  refine awp_seq ?_
  refine awp_seq ?_
  refine awp_region ?_
  refine sq_plain rfl rfl rfl (w_move rfl (ev_tmp rfl)) ?_
  refine sq_plain rfl rfl rfl (w_llen rfl Tryd.underlying30 (ev_tmp rfl)) ?_
  refine sq_plain rfl rfl rfl (w_neq rfl (ev_tmp rfl) ev_ci) ?_
  refine sq_nil ?_
  refine awp_cond (ev_tmp rfl) ?_ ?_
  · intro h12
    have k12 := ne_of_bne h12; try simp only [List.length_map] at k12
    have he := parsePS_not (s := s) (by omega)
    rw [he]
    refine awp_seq ?_
    refine awp_region ?_
    refine sq_plain rfl rfl rfl (w_build (places := #[(0, 1), (1, 1), (2, 1)]) rfl Tryd.underlying36 Tryd.zeroValue36 (fun w => by kernel_rfl) rfl bp_nil rfl) ?_
    refine sq_storeB0 0 rfl rfl rfl (ev_tmp rfl) (ev_tmp rfl) (as_agg _) rfl Tryd.sizeOf36 rfl ?_
    refine sq_plain rfl rfl rfl (w_assign rfl ev_cb) ?_
    refine sq_nil ?_
    refine awp_ret ?_
    refine retG_nil 9 1 ?_
    refine retG_nil 3 1 ?_
    exact retG [1, 0] ((Value.slice none 0 0), (Value.slice none 0 0)) (trivial) rfl (by rfl) (resN rfl (by decide) (rv_cons (rv_cell (ys := _) 2 rfl rfl Tryd.isAgg36 Tryd.sizeOf36 rfl) (rv_cons (rv_tmp' rfl (by rfl)) rv_nil)))
  · intro h12
    have k12 := eq_of_bne_false h12; try simp only [List.length_map] at k12
    obtain ⟨a, b, hw⟩ := two_of (l := splitC 32 s) (by omega)
    have he := parsePS_two hw
    rw [he, hw]
    have hla : a.length ≤ s.length := splitC_len (c := 32) (by rw [hw]; exact List.mem_cons_self)
    have hlb : b.length ≤ s.length := splitC_len (c := 32) (by rw [hw]; exact List.mem_cons_of_mem _ List.mem_cons_self)
    refine awp_skip ?_
    refine awp_seq ?_
    refine awp_region ?_
    refine sq_plain rfl rfl rfl (w_move rfl (ev_tmp rfl)) ?_
    refine sq_plain rfl rfl rfl (w_idxm rfl Tryd.underlying30 Tryd.sizeOf9 (ev_tmp rfl) ev_ci (show [a, b][0]? = some a from rfl) (by first | omega | ((try simp only [List.length_map, List.length_take, List.length_cons, List.length_nil, chunks_len, szR] at *); omega) | (have hc2 := hc; simp only [Bool.and_eq_true, Bool.or_eq_true, Bool.or_eq_false_iff, Bool.and_eq_false_iff, Bool.not_eq_true', Bool.not_eq_false', decide_eq_true_eq, decide_eq_false_iff_not, beq_iff_eq, bne_iff_ne, List.length_map, List.length_take] at hc2; omega))) ?_
    refine sq_plain rfl rfl rfl (w_loadE1 rfl (ev_tmp rfl) Tryd.isAgg9 rfl) ?_
    refine sq_plain rfl rfl rfl (w_call rfl Tryd.call42 rfl (l1Read_spec a (by omega)) (evl_cons (ev_tmp rfl) evl_nil)) ?_
    refine sq_plain rfl rfl rfl (w_build (places := #[(0, 1), (1, 1), (2, 1)]) rfl Tryd.underlying36 Tryd.zeroValue36 (fun w => by kernel_rfl) rfl (bp_cons (ev_tmp rfl) (as_ik _ _) bp_nil) rfl) ?_
    refine sq_alloc rfl rfl rfl rfl Tryd.zeroValue36 rfl ?_
    intro b5
    refine sq_storeB0 0 rfl rfl rfl (ev_tmp rfl) (ev_tmp rfl) (as_agg _) rfl Tryd.sizeOf36 rfl ?_
    refine sq_nil ?_
    refine awp_seq ?_
    refine awp_seq ?_
    refine awp_region ?_
    refine sq_plain rfl rfl rfl (w_move rfl (ev_tmp rfl)) ?_
    refine sq_plain rfl rfl rfl (w_idxm rfl Tryd.underlying30 Tryd.sizeOf9 (ev_tmp rfl) ev_ci (show [a, b][1]? = some b from rfl) (by first | omega | ((try simp only [List.length_map, List.length_take, List.length_cons, List.length_nil, chunks_len, szR] at *); omega) | (have hc2 := hc; simp only [Bool.and_eq_true, Bool.or_eq_true, Bool.or_eq_false_iff, Bool.and_eq_false_iff, Bool.not_eq_true', Bool.not_eq_false', decide_eq_true_eq, decide_eq_false_iff_not, beq_iff_eq, bne_iff_ne, List.length_map, List.length_take] at hc2; omega))) ?_
    refine sq_plain rfl rfl rfl (w_loadE1 rfl (ev_tmp rfl) Tryd.isAgg9 rfl) ?_
    refine sq_plain rfl rfl rfl (w_call rfl Tryd.call41 rfl (l1Split_spec b 124 (by omega)) (evl_cons (ev_tmp rfl) (evl_cons ev_ci evl_nil))) ?_
    obtain ⟨ws, hws⟩ : ∃ ws, splitC 124 b = ws := ⟨_, rfl⟩
    have hwl := splitC_cnt (c := 124) b
    have hwsum := splitC_sum (c := 124) b
    rw [hws] at hwl hwsum
    rw [hws]
    refine sq_plain rfl rfl rfl (w_llen rfl Tryd.underlying30 (ev_tmp rfl)) ?_
    refine sq_plain rfl rfl rfl (w_move rfl ev_ci) ?_
    refine sq_nil ?_
    refine awp_block ?_
    refine awp_own (by first | (simp only [id, pick, List.eraseIdx_cons_zero, List.eraseIdx_cons_succ, List.set_cons_zero, List.set_cons_succ, List.cons_append, List.nil_append, List.getElem?_cons_zero, List.getElem?_cons_succ, List.append_nil, List.take_succ_cons, List.take_zero, List.drop_succ_cons, List.drop_zero]; exact rfl) | exact rfl) ?_
    refine awp_nilown 9 1 ?_
    refine awp_nilown 3 1 ?_
    refine AWP.le (le_pick [2, 1, 0] rfl) ?_
    refine awp_loop_i3 [(0, _), (2, _), (3, _), (5, _), (22, _), (23, _)] _ (fun (i : Nat) (vc : Value) (vg : Value) => i ≤ ws.length) (fun (i : Nat) (vc : Value) (vg : Value) => [.box b5 36 [AV.int (l1R a), AV.is vc, AV.is vg], .arr vc 9 1 ((od ws i).map fun x => [AV.str x]), .arr vg 3 1 (((ev ws i).map l1R).map fun x => [AV.int x])]) (fun (i : Nat) (vc : Value) (vg : Value) => [(24, AV.int i)]) (fun (i : Nat) (vc : Value) (vg : Value) => ws.length - i) (0) ((Value.slice none 0 0)) ((Value.slice none 0 0)) ?_ (le_eq (by rfl) ⟨rfl, rfl, rfl, rfl, rfl, rfl, rfl, trivial⟩) ?_
    · exact Nat.zero_le _
    intro i vc vg hinv
    have hol := od_len ws i
    have hel := ev_len ws i
    have hrl : ((ev ws i).map l1R).length = (ev ws i).length := List.length_map ..
    refine awp_seq ?_
    refine awp_region ?_
    refine sq_plain rfl rfl rfl (w_lss rfl (ev_tmp rfl) (ev_tmp rfl)) ?_
    refine sq_nil ?_
    refine awp_seq ?_
    refine awp_cond (ev_tmp rfl) ?_ ?_
    · intro h25
      have k25 := of_decide_eq_true h25; try simp only [List.length_map] at k25
      obtain ⟨x, hx⟩ := get_some (show i < ws.length by omega)
      have hxl : x.length ≤ b.length := splitC_len (c := 124) (by rw [hws]; exact List.mem_of_getElem? hx)
      refine awp_skip ?_
      refine awp_seq ?_
      refine awp_block ?_
      refine awp_seq ?_
      refine awp_region ?_
      refine sq_plain rfl rfl rfl (w_move rfl (ev_tmp rfl)) ?_
      refine sq_plain rfl rfl rfl (w_idxm rfl Tryd.underlying30 Tryd.sizeOf9 (ev_tmp rfl) (ev_tmp rfl) hx (by first | omega | ((try simp only [List.length_map, List.length_take, List.length_cons, List.length_nil, chunks_len, szR] at *); omega) | (have hc2 := hc; simp only [Bool.and_eq_true, Bool.or_eq_true, Bool.or_eq_false_iff, Bool.and_eq_false_iff, Bool.not_eq_true', Bool.not_eq_false', decide_eq_true_eq, decide_eq_false_iff_not, beq_iff_eq, bne_iff_ne, List.length_map, List.length_take] at hc2; omega))) ?_
      refine sq_plain rfl rfl rfl (w_loadE1 rfl (ev_tmp rfl) Tryd.isAgg9 rfl) ?_
      refine sq_plain rfl rfl rfl (w_assign rfl (ev_tmp rfl)) ?_
      refine sq_plain rfl rfl rfl (w_assign rfl (ev_tmp rfl)) ?_
      refine sq_nil ?_
      refine awp_seq ?_
      refine awp_region ?_
      refine sq_plain rfl rfl rfl (w_move rfl (ev_tmp rfl)) ?_
      refine sq_plain rfl rfl rfl (w_rem rfl (ev_tmp rfl) ev_ci (by decide)) ?_
      refine sq_plain rfl rfl rfl (w_eql rfl (ev_tmp rfl) ev_ci) ?_
      refine sq_nil ?_
      refine awp_cond (ev_tmp rfl) ?_ ?_
      · intro h31
        have k31 := eq_of_beqt h31; try simp only [List.length_map] at k31
        have hodd : i % 2 = 1 := (by rw [mod2] at h31; simpa using h31)
        refine awp_region ?_
        refine sq_plain rfl rfl rfl (w_fldBn 1 rfl Tryd.underlying36 rfl Tryd.sizeOf30 (ev_tmp rfl) rfl) ?_
        refine sq_plain rfl rfl rfl (w_loadB1 0 rfl (ev_tmp rfl) rfl Tryd.isAgg30 rfl) ?_
        refine sq_plain rfl rfl rfl (w_move rfl (ev_tmp rfl)) ?_
        refine sq_plain rfl rfl rfl (w_bslice rfl Tryd.underlying30 Tryd.sizeOf9 Tryd.zeroValue9 rfl rfl rfl rfl (bp_cons (ev_tmp rfl) (as_str _) bp_nil) rfl rfl) ?_
        refine sq_append (by' := 16) 1 rfl rfl rfl rfl Tryd.underlying30 Tryd.type9 rfl rfl rfl rfl rfl rfl (ev_tmp rfl) (ev_tmp rfl) rfl (by first | omega | ((try simp only [List.length_map, List.length_take, List.length_cons, List.length_nil, chunks_len, szR] at *); omega) | (have hc2 := hc; simp only [Bool.and_eq_true, Bool.or_eq_true, Bool.or_eq_false_iff, Bool.and_eq_false_iff, Bool.not_eq_true', Bool.not_eq_false', decide_eq_true_eq, decide_eq_false_iff_not, beq_iff_eq, bne_iff_ne, List.length_map, List.length_take] at hc2; omega)) ?_
        intro v36_3
        refine sq_plain rfl rfl rfl (w_fldBn 1 rfl Tryd.underlying36 rfl Tryd.sizeOf30 (ev_tmp rfl) rfl) ?_
        refine sq_fact 1 rfl fun one_v36_3 => ?_
        refine sq_storeB1 0 rfl rfl rfl (ev_tmp rfl) (ev_tmp rfl) (as_is one_v36_3) rfl Tryd.sizeOf30 rfl ?_
        refine sq_nil ?_
        refine awp_region ?_
        refine sq_plain rfl rfl rfl (w_addi rfl (ev_tmp rfl) ev_ci (by first | omega | ((try simp only [List.length_map, List.length_take, List.length_cons, List.length_nil, chunks_len, szR] at *); omega) | (have hc2 := hc; simp only [Bool.and_eq_true, Bool.or_eq_true, Bool.or_eq_false_iff, Bool.and_eq_false_iff, Bool.not_eq_true', Bool.not_eq_false', decide_eq_true_eq, decide_eq_false_iff_not, beq_iff_eq, bne_iff_ne, List.length_map, List.length_take] at hc2; omega))) ?_
        refine sq_plain rfl rfl rfl (w_move rfl (ev_tmp rfl)) ?_
        refine sq_nil ?_
        refine round_end3 i vc vg (i + 1) (v36_3) (vg) ?_ ?_ (Le.trans (le_pick [0, 0, 0] rfl) (le_eq (by first | (rw [od_odd hx hodd, ev_odd hodd, List.map_append]; rfl) | (rw [od_even hodd, ev_even hx hodd, List.map_append, List.map_append]; rfl)) ⟨rfl, rfl, rfl, rfl, rfl, rfl, rfl, trivial⟩))
        · exact (by omega)
        · omega
      · intro h31
        have k31 := ne_of_beqf h31; try simp only [List.length_map] at k31
        have hodd : ¬ i % 2 = 1 := (by rw [mod2] at h31; simpa using h31)
        refine AWP.le (le_pick [0, 0, 0] rfl) ?_
        refine awp_region_tail 5 (by kernel_rfl) (by kernel_rfl) rfl ?_
        refine ch_plain rfl rfl (w_fldBn 2 rfl Tryd.underlying36 rfl Tryd.sizeOf31 (ev_tmp rfl) rfl) ?_
        refine ch_plain rfl rfl (w_loadB1 0 rfl (ev_tmp rfl) rfl Tryd.isAgg31 rfl) ?_
        refine ch_plain rfl rfl (w_move rfl (ev_tmp rfl)) ?_
        refine ch_plain rfl rfl (w_call rfl Tryd.call42 rfl (l1Read_spec x (by omega)) (evl_cons (ev_tmp rfl) evl_nil)) ?_
        refine ch_plain rfl rfl (w_bslice rfl Tryd.underlying31 Tryd.sizeOf3 Tryd.zeroValue3 rfl rfl rfl rfl (bp_cons (ev_tmp rfl) (as_ik _ _) bp_nil) rfl rfl) ?_
        refine ch_nil ?_
        refine sq_append (by' := 8) 2 rfl rfl rfl rfl Tryd.underlying31 Tryd.type3 rfl rfl rfl rfl rfl rfl (ev_tmp rfl) (ev_tmp rfl) rfl (by first | omega | ((try simp only [List.length_map, List.length_take, List.length_cons, List.length_nil, chunks_len, szR] at *); omega) | (have hc2 := hc; simp only [Bool.and_eq_true, Bool.or_eq_true, Bool.or_eq_false_iff, Bool.and_eq_false_iff, Bool.not_eq_true', Bool.not_eq_false', decide_eq_true_eq, decide_eq_false_iff_not, beq_iff_eq, bne_iff_ne, List.length_map, List.length_take] at hc2; omega)) ?_
        intro v43_4
        refine sq_plain rfl rfl rfl (w_fldBn 2 rfl Tryd.underlying36 rfl Tryd.sizeOf31 (ev_tmp rfl) rfl) ?_
        refine sq_fact 2 rfl fun one_v43_4 => ?_
        refine sq_storeB1 0 rfl rfl rfl (ev_tmp rfl) (ev_tmp rfl) (as_is one_v43_4) rfl Tryd.sizeOf31 rfl ?_
        refine sq_nil ?_
        refine awp_region ?_
        refine sq_plain rfl rfl rfl (w_addi rfl (ev_tmp rfl) ev_ci (by first | omega | ((try simp only [List.length_map, List.length_take, List.length_cons, List.length_nil, chunks_len, szR] at *); omega) | (have hc2 := hc; simp only [Bool.and_eq_true, Bool.or_eq_true, Bool.or_eq_false_iff, Bool.and_eq_false_iff, Bool.not_eq_true', Bool.not_eq_false', decide_eq_true_eq, decide_eq_false_iff_not, beq_iff_eq, bne_iff_ne, List.length_map, List.length_take] at hc2; omega))) ?_
        refine sq_plain rfl rfl rfl (w_move rfl (ev_tmp rfl)) ?_
        refine sq_nil ?_
        refine round_end3 i vc vg (i + 1) (vc) (v43_4) ?_ ?_ (Le.trans (le_pick [0, 0, 0] rfl) (le_eq (by first | (rw [od_odd hx hodd, ev_odd hodd, List.map_append]; rfl) | (rw [od_even hodd, ev_even hx hodd, List.map_append, List.map_append]; rfl)) ⟨rfl, rfl, rfl, rfl, rfl, rfl, rfl, trivial⟩))
        · exact (by omega)
        · omega
    · intro h25
      have k25 := of_decide_eq_false h25; try simp only [List.length_map] at k25
      have hin : i = ws.length := by omega
      subst hin
      have hpo : placeS a b = ⟨l1R a, od ws ws.length, (ev ws ws.length).map l1R⟩ := (by unfold placeS; rw [hws])
      have hpz := place_size ws b.length hwl hwsum (l1R a) l1R ws.length
      rw [hpo]
      refine awp_exit ?_
      refine awp_seq ?_
      refine awp_seq ?_
      refine awp_region ?_
      refine sq_plain rfl rfl rfl (w_loadA 0 rfl (ev_tmp rfl) rfl Tryd.isAgg36 Tryd.sizeOf36 rfl) ?_
      refine sq_plain rfl rfl rfl (w_callB rfl Tryd.call33 rfl (goodPlacesS_spec ⟨l1R a, od ws ws.length, (ev ws ws.length).map l1R⟩ (Nat.le_trans hpz (by omega))) (flat_bool _) (evlb_cons (evb_lt (ev_tmp rfl) (lt_agg (lc_cons lt_refl (lc_cons (lt_arr (List.mem_of_getElem? (i := 1) rfl) le_refl_e) (lc_cons (lt_arr (List.mem_of_getElem? (i := 2) rfl) le_refl_e) lc_nil))))) evlb_nil)) ?_
      refine sq_plain rfl rfl rfl (w_not rfl (ev_tmp rfl)) ?_
      refine sq_plain rfl rfl rfl (w_move rfl (ev_tmp rfl)) ?_
      refine sq_grd rfl rfl (guard_f rfl rfl rfl) (fun hc => w_loadA 0 rfl (ev_tmp rfl) rfl Tryd.isAgg36 Tryd.sizeOf36 rfl) ?_
      refine sq_grd rfl rfl (guard_f rfl rfl rfl) (fun hc => w_callB rfl Tryd.call34 rfl (l20Text_spec ⟨l1R a, od ws ws.length, (ev ws ws.length).map l1R⟩ (Nat.le_trans hpz (by omega)) (by rw [goodPlaces_eq]; simpa using hc)) (flat_str _) (evlb_cons (evb_lt (ev_whn rfl hc) (lt_agg (lc_cons lt_refl (lc_cons (lt_arr (List.mem_of_getElem? (i := 1) rfl) le_refl_e) (lc_cons (lt_arr (List.mem_of_getElem? (i := 2) rfl) le_refl_e) lc_nil))))) evlb_nil)) ?_
      refine sq_grd rfl rfl (guard_f rfl rfl rfl) (fun hc => w_move rfl (ev_tmp rfl)) ?_
      refine sq_grd rfl rfl (guard_f rfl rfl rfl) (fun hc => w_sneq rfl (ev_whn rfl hc) (ev_whn rfl hc)) ?_
      refine sq_plain rfl rfl rfl (w_or rfl (ev_tmp rfl) (evif_w rfl)) ?_
      refine sq_nil ?_
      refine awp_cond (ev_tmp rfl) ?_ ?_
      · intro h54
        rw [if_pos h54]
        refine awp_seq ?_
        refine awp_region ?_
        refine sq_plain rfl rfl rfl (w_build (places := #[(0, 1), (1, 1), (2, 1)]) rfl Tryd.underlying36 Tryd.zeroValue36 (fun w => by kernel_rfl) rfl bp_nil rfl) ?_
        refine sq_storeB0 3 rfl rfl rfl (ev_tmp rfl) (ev_tmp rfl) (as_agg _) rfl Tryd.sizeOf36 rfl ?_
        refine sq_plain rfl rfl rfl (w_assign rfl ev_cb) ?_
        refine sq_nil ?_
        refine awp_ret ?_
        refine retG_nil 9 1 ?_
        refine retG_nil 3 1 ?_
        exact retG [1, 0] ((Value.slice none 0 0), (Value.slice none 0 0)) (trivial) rfl (by rfl) (resN rfl (by decide) (rv_cons (rv_cell (ys := _) 5 rfl rfl Tryd.isAgg36 Tryd.sizeOf36 rfl) (rv_cons (rv_tmp' rfl (by rfl)) rv_nil)))
      · intro h54
        rw [if_neg (by rw [h54]; decide)]
        refine awp_skip ?_
        refine awp_seq ?_
        refine awp_region ?_
        refine sq_plain rfl rfl rfl (w_loadA 0 rfl (ev_tmp rfl) rfl Tryd.isAgg36 Tryd.sizeOf36 rfl) ?_
        refine sq_storeB0 3 rfl rfl rfl (ev_tmp rfl) (ev_tmp rfl) (as_agg _) rfl Tryd.sizeOf36 rfl ?_
        refine sq_plain rfl rfl rfl (w_assign rfl ev_cb) ?_
        refine sq_nil ?_
        refine awp_ret ?_
        exact retG [1, 1] (vc, vg) (trivial) rfl (by rfl) (resN rfl (by decide) (rv_cons (rv_cell (ys := _) 3 rfl rfl Tryd.isAgg36 Tryd.sizeOf36 rfl) (rv_cons (rv_tmp' rfl (by rfl)) rv_nil)))
theorem readPlacesS_spec (s : Str) (hs : s.length ≤ 1048576) : FSpec Tryd.prog 23 [AV.str s] (AV.tup [AV.agg (parsePS s).1.cs, AV.bool (parsePS s).2]) :=
  fspec_of_gspec (readPlacesS_own s hs) fun x _ => lt_tup (lc_cons (lt_agg (TPlaces.lc _ x)) (lc_cons lt_refl lc_nil))
end Go.Proofs.YtdgoejkijpllpaaDoor

set_option linter.unusedVariables false
set_option linter.unusedSimpArgs false
set_option maxRecDepth 100000
namespace Go.Proofs.YtdgoejkijpllpaaDoor
open Go Go.AV Go.M
open Go.ChangeShapes Go.WideShapes Go.ChangeAt Go.RowKit
theorem star : "*" ++ "errors.errorString" = "*errors.errorString" := by decide
theorem errRow (u : TypeId) (h : Tryd.prog.typeName? 3 u = some "*errors.errorString") : u = 136 :=
  typeName_ptr_named (nm := "errors.errorString") (by rw [star]; kernel_rfl) (by kernel_rfl) (by decide) u (by rw [star]; exact h)
theorem readW_of {W : World} (hL : laidMet Tryd.prog Rows.fnExactReadFeedLineRow.laid W) (hsh : W.ShapedOpen Tryd.prog) : readW W := by
  refine ⟨tabW_head (laidMet.tail (laidMet.tail hL)), ?_, ?_, ?_⟩
  · exact cell_of_shapedOpen_int (t := 3) (k := .i64) (zero := #[.int .i64 0]) hsh (of_decide_eq_true (by kernel_rfl)) (by kernel_rfl) rfl (by kernel_rfl) (by kernel_rfl) Tryd.underlying3
  · have h5 := laidMet.tail (laidMet.tail (laidMet.tail (laidMet.tail (laidMet.tail hL))))
    obtain ⟨a, s, h, _⟩ := laid_sentinel (n := "strconv.ErrSyntax") (g := 1) (ti := 84) h5 (by kernel_rfl) (by kernel_rfl) Tryd.underlying84 errRow Tryd.underlying136 Tryd.underlying138 rfl rfl Tryd.underlying9 (by kernel_rfl) (by kernel_rfl)
    exact ⟨_, _, h⟩
  · have h4 := laidMet.tail (laidMet.tail (laidMet.tail (laidMet.tail hL)))
    obtain ⟨a, s, h, _⟩ := laid_sentinel (n := "strconv.ErrRange") (g := 2) (ti := 84) h4 (by kernel_rfl) (by kernel_rfl) Tryd.underlying84 errRow Tryd.underlying136 Tryd.underlying138 rfl rfl Tryd.underlying9 (by kernel_rfl) (by kernel_rfl)
    exact ⟨_, _, h⟩
end Go.Proofs.YtdgoejkijpllpaaDoor

set_option linter.unusedVariables false
set_option linter.unusedSimpArgs false
set_option maxRecDepth 100000
set_option maxHeartbeats 1000000
namespace Go.M
open Go.AV
theorem parseP_size {s : Str} (hs : s.length ≤ 1048576) : (parseP s).1.size ≤ 4194304 := by
  have h1 := cutL_len s 32
  have h2 := splitC_cnt (c := 124) (Lib.cut s [32]).2.1
  have h3 := splitC_sum (c := 124) (Lib.cut s [32]).2.1
  have h4 := place_size (splitC 124 (Lib.cut s [32]).2.1) (Lib.cut s [32]).2.1.length h2 h3 (readI (Lib.cut s [32]).1 0 50).1 (fun t => (readI t 0 3).1) (splitC 124 (Lib.cut s [32]).2.1).length
  unfold parseP
  split
  · show TPlaces.size noPlaces ≤ _; decide
  · exact Nat.le_trans h4 (by omega)
theorem parseP_len {s : Str} (hs : s.length ≤ 1048576) : (parseP s).1.size ≤ 4194304 ∧ (parseP s).1.Cuts.length ≤ 4 ∧ (parseP s).1.Groups.length ≤ 5 := by
  rcases parseP_cases s with h | ⟨_, h2, h3⟩
  · rw [h]; exact ⟨by decide, by decide, by decide⟩
  · have hf := good_facts h2
    exact ⟨parseP_size hs, by omega, by omega⟩
end Go.M
namespace Go.Proofs.YtdgoejkijpllpaaDoor
open Go Go.AV Go.M
open Go.ChangeShapes Go.WideShapes Go.ChangeAt Go.RowKit
section
attribute [local irreducible] OpW OpA OpS AWP FSpec ESpec GSpec OpE RetOk RetOkG RvDen Le Ev GuardIs SrcIs
theorem fnExactReadPlaces_spec (s : Str) (hp : s.length ≤ 9223372036854775807) : FSpec Tryd.prog 7 [AV.wt readW (AV.str s)] (AV.bool true) := by
  refine spec_of_awp Tryd.func7 rfl Tryd.ntmps7 rfl ?_
  refine AWP.le (le_tab (t := 0) rfl) ?_
  refine awp_seq ?_
  refine awp_region ?_
  refine sq_plain rfl rfl rfl (w_assign rfl ev_cb) ?_
  refine sq_nil ?_
  refine awp_seq ?_
  refine awp_seq ?_
  refine awp_region ?_
  refine sq_plain rfl rfl rfl (w_move rfl (ev_tmp rfl)) ?_
  refine sq_plain rfl rfl rfl (w_slen rfl Tryd.underlying9 (ev_tmp rfl)) ?_
  refine sq_plain rfl rfl rfl (w_gtr rfl (ev_tmp rfl) ev_ci) ?_
  refine sq_nil ?_
  refine awp_cond (ev_tmp rfl) ?_ ?_
  · intro h13
    have k13 := of_decide_eq_true h13; try simp only [List.length_map] at k13
    refine awp_seq ?_
    refine awp_region ?_
    refine sq_plain rfl rfl rfl (w_assign rfl ev_cb) ?_
    refine sq_nil ?_
    refine awp_ret ?_
    exact retR rfl (rv_tmp' rfl (by first | rfl | (exfalso; simp_all [parseP_eq]; done) | (exfalso; simp_all [parseP_eq]; omega)))
  · intro h13
    have k13 := of_decide_eq_false h13; try simp only [List.length_map] at k13
    have hs : s.length ≤ 1048576 := by omega
    have hN0 := parseP_len hs
    obtain ⟨hz1, hz2, hz3⟩ := hN0
    have hN : 0 ≤ (1 : Int) ∧ (parseP s).1.markN 1 ≤ 4611686018427387904 := ⟨by omega, by unfold TPlaces.markN; omega⟩
    have hN1 : ¬ ((parseP s).1.markN 1 < 0) := by unfold TPlaces.markN; omega
    refine awp_skip ?_
    refine awp_seq ?_
    refine awp_region ?_
    refine sq_plain rfl rfl rfl (w_move rfl (ev_tmp rfl)) ?_
    refine sq_plain rfl rfl rfl (w_call rfl Tryd.call23 rfl (readPlacesS_spec s hs) (evl_cons (ev_tmp rfl) evl_nil)) ?_
    refine sq_plain rfl rfl rfl (w_move rfl (ev_tmp rfl)) ?_
    refine sq_plain rfl rfl rfl (w_extract rfl (ev_tmp rfl) rfl) ?_
    refine sq_plain rfl rfl rfl (w_extract rfl (ev_tmp rfl) rfl) ?_
    refine sq_alloc rfl rfl rfl rfl Tryd.zeroValue36 rfl ?_
    intro b3
    refine sq_storeB0 0 rfl rfl rfl (ev_tmp rfl) (ev_tmp rfl) (as_agg _) rfl Tryd.sizeOf36 rfl ?_
    refine sq_plain rfl rfl rfl (w_assign rfl (ev_tmp rfl)) ?_
    refine sq_nil ?_
    refine awp_seq ?_
    refine awp_region ?_
    refine sq_plain rfl rfl rfl (w_move rfl (ev_tmp rfl)) ?_
    first | (refine sq_le (le_retag (T := readW) (T' := readW) (t := 20) 0 rfl (fun _ h => h) rfl) ?_) | (refine sq_le (le_retag (T := readW) (T' := readW) (t := 20) 1 rfl (fun _ h => h) rfl) ?_) | (refine sq_le (le_retag (T := readW) (T' := readW) (t := 20) 2 rfl (fun _ h => h) rfl) ?_) | (refine sq_le (le_retag (T := readW) (T' := readW) (t := 20) 3 rfl (fun _ h => h) rfl) ?_) | (refine sq_le (le_retag (T := readW) (T' := readW) (t := 20) 4 rfl (fun _ h => h) rfl) ?_) | (refine sq_le (le_retag (T := readW) (T' := readW) (t := 20) 5 rfl (fun _ h => h) rfl) ?_) | (refine sq_le (le_retag (T := readW) (T' := readW) (t := 20) 6 rfl (fun _ h => h) rfl) ?_) | (refine sq_le (le_retag (T := readW) (T' := readW) (t := 20) 7 rfl (fun _ h => h) rfl) ?_)
    refine sq_callG [] rfl rfl rfl rfl Tryd.call24 rfl (readPlaces_own s hs) (evl_cons (ev_tmp rfl) evl_nil) rfl ?_
    intro x21 ok21
    refine sq_plain rfl rfl rfl (w_move rfl (ev_tmp rfl)) ?_
    refine sq_plain rfl rfl rfl (w_extract rfl (ev_tmp rfl) rfl) ?_
    refine sq_plain rfl rfl rfl (w_extract rfl (ev_tmp rfl) rfl) ?_
    refine sq_alloc rfl rfl rfl rfl Tryd.zeroValue36 rfl ?_
    intro b5
    refine sq_storeB0 0 rfl rfl rfl (ev_tmp rfl) (ev_tmp rfl) (as_agg _) rfl Tryd.sizeOf36 rfl ?_
    refine sq_plain rfl rfl rfl (w_assign rfl (ev_tmp rfl)) ?_
    refine sq_nil ?_
    refine awp_seq ?_
    refine awp_seq ?_
    refine awp_region ?_
    refine sq_plain rfl rfl rfl (w_loadA 0 rfl (ev_tmp rfl) rfl Tryd.isAgg36 Tryd.sizeOf36 rfl) ?_
    refine sq_plain rfl rfl rfl (w_loadA 3 rfl (ev_tmp rfl) rfl Tryd.isAgg36 Tryd.sizeOf36 rfl) ?_
    refine sq_plain rfl rfl rfl (w_callB rfl Tryd.call16 rfl (eqPlaces_spec _ _) (flat_bool _) (evlb_cons (evb_lt (ev_tmp rfl) (lt_agg (lc_cons lt_refl (lc_cons (lt_arr (List.mem_of_getElem? (i := 1) rfl) le_refl_e) (lc_cons (lt_arr (List.mem_of_getElem? (i := 2) rfl) le_refl_e) lc_nil))))) (evlb_cons (evb (ev_tmp rfl)) evlb_nil))) ?_
    refine sq_plain rfl rfl rfl (w_not rfl (ev_tmp rfl)) ?_
    refine sq_plain rfl rfl rfl (w_move rfl (ev_tmp rfl)) ?_
    refine sq_grd rfl rfl (guard_f rfl rfl rfl) (fun hc => w_move rfl (ev_tmp rfl)) ?_
    refine sq_grd rfl rfl (guard_f rfl rfl rfl) (fun hc => w_move rfl (ev_tmp rfl)) ?_
    refine sq_grd rfl rfl (guard_f rfl rfl rfl) (fun hc => w_bneq rfl Tryd.underlying4 (ev_whn rfl hc) (ev_whn rfl hc)) ?_
    refine sq_plain rfl rfl rfl (w_or rfl (ev_tmp rfl) (evif_w rfl)) ?_
    refine sq_nil ?_
    refine awp_cond (ev_tmp rfl) ?_ ?_
    · intro h32
      refine awp_seq ?_
      refine awp_region ?_
      refine sq_plain rfl rfl rfl (w_assign rfl ev_cb) ?_
      refine sq_nil ?_
      refine awp_ret ?_
      exact retR rfl (rv_tmp' rfl (by first | rfl | (exfalso; simp_all [parseP_eq]; done) | (exfalso; simp_all [parseP_eq]; omega)))
    · intro h32
      refine awp_skip ?_
      refine awp_seq ?_
      refine awp_region ?_
      refine sq_plain rfl rfl rfl (w_assign rfl ev_ci) ?_
      refine sq_nil ?_
      refine awp_seq ?_
      refine awp_region ?_
      refine sq_plain rfl rfl rfl (w_loadA 0 rfl (ev_tmp rfl) rfl Tryd.isAgg36 Tryd.sizeOf36 rfl) ?_
      refine sq_plain rfl rfl rfl (w_move rfl (ev_tmp rfl)) ?_
      refine sq_callG [1, 1] rfl rfl rfl rfl Tryd.call25 rfl (markPlaces_spec _ _ _ (by first | assumption | first | omega | (refine ⟨by omega, ?_⟩; simp only [marks_len] at *; omega))) (evl_cons (ev_tmp rfl) (evl_cons (ev_tmp rfl) evl_nil)) rfl ?_
      intro x35 ok35
      refine sq_plain rfl rfl rfl (w_assign rfl (ev_tmp rfl)) ?_
      refine sq_nil ?_
      refine awp_seq ?_
      refine awp_region ?_
      refine sq_plain rfl rfl rfl (w_assign rfl ev_ci) ?_
      refine sq_nil ?_
      refine awp_seq ?_
      refine awp_region ?_
      refine sq_plain rfl rfl rfl (w_loadA 2 rfl (ev_tmp rfl) rfl Tryd.isAgg36 Tryd.sizeOf36 rfl) ?_
      refine sq_plain rfl rfl rfl (w_move rfl (ev_tmp rfl)) ?_
      refine sq_plain rfl rfl rfl (w_callB rfl Tryd.call26 rfl (heldPlaces_spec (parseP s).1 1 hN) (flat_ik _ _) (evlb_cons (evb_lt (ev_tmp rfl) (lt_agg (lc_cons lt_refl (lc_cons (lt_arr (List.mem_of_getElem? (i := 0) rfl) le_refl_e) (lc_cons (lt_arr (List.mem_of_getElem? (i := 1) rfl) le_refl_e) lc_nil))))) (evlb_cons (evb (ev_tmp rfl)) evlb_nil))) ?_
      refine sq_plain rfl rfl rfl (w_assign rfl (ev_tmp rfl)) ?_
      refine sq_nil ?_
      refine awp_seq ?_
      refine awp_seq ?_
      refine awp_region ?_
      refine sq_plain rfl rfl rfl (w_move rfl (ev_tmp rfl)) ?_
      refine sq_plain rfl rfl rfl (w_lss rfl (ev_tmp rfl) ev_ci) ?_
      refine sq_nil ?_
      refine awp_cond (ev_tmp rfl) ?_ ?_
      · intro h40
        have k40 := of_decide_eq_true h40; try simp only [List.length_map] at k40
        refine awp_seq ?_
        refine awp_region ?_
        refine sq_plain rfl rfl rfl (w_assign rfl ev_cb) ?_
        refine sq_nil ?_
        refine awp_ret ?_
        exact retR rfl (rv_tmp' rfl (by first | rfl | (exfalso; simp_all [parseP_eq]; done) | (exfalso; simp_all [parseP_eq]; omega)))
      · intro h40
        have k40 := of_decide_eq_false h40; try simp only [List.length_map] at k40
        refine awp_skip ?_
        refine awp_seq ?_
        refine awp_seq ?_
        refine awp_region ?_
        refine sq_plain rfl rfl rfl (w_move rfl (ev_tmp rfl)) ?_
        refine sq_plain rfl rfl rfl (w_move rfl (ev_tmp rfl)) ?_
        refine sq_plain rfl rfl rfl (w_neq rfl (ev_tmp rfl) (ev_tmp rfl)) ?_
        refine sq_nil ?_
        refine awp_cond (ev_tmp rfl) ?_ ?_
        · intro h43
          have k43 := ne_of_bne h43; try simp only [List.length_map] at k43
          refine awp_seq ?_
          refine awp_region ?_
          refine sq_plain rfl rfl rfl (w_assign rfl ev_cb) ?_
          refine sq_nil ?_
          refine awp_ret ?_
          exact retR rfl (rv_tmp' rfl (by first | rfl | (exfalso; simp_all [parseP_eq]; done) | (exfalso; simp_all [parseP_eq]; omega)))
        · intro h43
          have k43 := eq_of_bne_false h43; try simp only [List.length_map] at k43
          refine awp_skip ?_
          refine awp_seq ?_
          refine awp_region ?_
          refine sq_plain rfl rfl rfl (w_move rfl (ev_tmp rfl)) ?_
          first | (refine sq_le (le_retag (T := readW) (T' := readW) (t := 45) 0 rfl (fun _ h => h) rfl) ?_) | (refine sq_le (le_retag (T := readW) (T' := readW) (t := 45) 1 rfl (fun _ h => h) rfl) ?_) | (refine sq_le (le_retag (T := readW) (T' := readW) (t := 45) 2 rfl (fun _ h => h) rfl) ?_) | (refine sq_le (le_retag (T := readW) (T' := readW) (t := 45) 3 rfl (fun _ h => h) rfl) ?_) | (refine sq_le (le_retag (T := readW) (T' := readW) (t := 45) 4 rfl (fun _ h => h) rfl) ?_) | (refine sq_le (le_retag (T := readW) (T' := readW) (t := 45) 5 rfl (fun _ h => h) rfl) ?_) | (refine sq_le (le_retag (T := readW) (T' := readW) (t := 45) 6 rfl (fun _ h => h) rfl) ?_) | (refine sq_le (le_retag (T := readW) (T' := readW) (t := 45) 7 rfl (fun _ h => h) rfl) ?_)
          refine sq_callG [] rfl rfl rfl rfl Tryd.call24 rfl (readPlaces_own s hs) (evl_cons (ev_tmp rfl) evl_nil) rfl ?_
          intro x46 ok46
          refine sq_plain rfl rfl rfl (w_move rfl (ev_tmp rfl)) ?_
          refine sq_plain rfl rfl rfl (w_extract rfl (ev_tmp rfl) rfl) ?_
          refine sq_plain rfl rfl rfl (w_extract rfl (ev_tmp rfl) rfl) ?_
          refine sq_alloc rfl rfl rfl rfl Tryd.zeroValue36 rfl ?_
          intro b9
          refine sq_storeB0 0 rfl rfl rfl (ev_tmp rfl) (ev_tmp rfl) (as_agg _) rfl Tryd.sizeOf36 rfl ?_
          refine sq_plain rfl rfl rfl (w_assign rfl (ev_tmp rfl)) ?_
          refine sq_nil ?_
          refine awp_seq ?_
          refine awp_seq ?_
          refine awp_region ?_
          refine sq_plain rfl rfl rfl (w_loadA 0 rfl (ev_tmp rfl) rfl Tryd.isAgg36 Tryd.sizeOf36 rfl) ?_
          refine sq_plain rfl rfl rfl (w_loadA 6 rfl (ev_tmp rfl) rfl Tryd.isAgg36 Tryd.sizeOf36 rfl) ?_
          refine sq_plain rfl rfl rfl (w_callB rfl Tryd.call16 rfl (eqPlaces_spec _ _) (flat_bool _) (evlb_cons (evb_lt (ev_tmp rfl) (lt_agg (lc_cons lt_refl (lc_cons (lt_arr (List.mem_of_getElem? (i := 1) rfl) le_refl_e) (lc_cons (lt_arr (List.mem_of_getElem? (i := 2) rfl) le_refl_e) lc_nil))))) (evlb_cons (evb (ev_tmp rfl)) evlb_nil))) ?_
          refine sq_plain rfl rfl rfl (w_not rfl (ev_tmp rfl)) ?_
          refine sq_plain rfl rfl rfl (w_move rfl (ev_tmp rfl)) ?_
          refine sq_grd rfl rfl (guard_f rfl rfl rfl) (fun hc => w_move rfl (ev_tmp rfl)) ?_
          refine sq_grd rfl rfl (guard_f rfl rfl rfl) (fun hc => w_move rfl (ev_tmp rfl)) ?_
          refine sq_grd rfl rfl (guard_f rfl rfl rfl) (fun hc => w_bneq rfl Tryd.underlying4 (ev_whn rfl hc) (ev_whn rfl hc)) ?_
          refine sq_plain rfl rfl rfl (w_or rfl (ev_tmp rfl) (evif_w rfl)) ?_
          refine sq_nil ?_
          refine awp_cond (ev_tmp rfl) ?_ ?_
          · intro h57
            refine awp_seq ?_
            refine awp_region ?_
            refine sq_plain rfl rfl rfl (w_assign rfl ev_cb) ?_
            refine sq_nil ?_
            refine awp_ret ?_
            exact retR rfl (rv_tmp' rfl (by first | rfl | (exfalso; simp_all [parseP_eq]; done) | (exfalso; simp_all [parseP_eq]; omega)))
          · intro h57
            refine awp_skip ?_
            refine awp_seq ?_
            refine awp_region ?_
            refine sq_plain rfl rfl rfl (w_assign rfl ev_ci) ?_
            refine sq_nil ?_
            refine awp_seq ?_
            refine awp_region ?_
            refine sq_plain rfl rfl rfl (w_loadA 5 rfl (ev_tmp rfl) rfl Tryd.isAgg36 Tryd.sizeOf36 rfl) ?_
            refine sq_plain rfl rfl rfl (w_move rfl (ev_tmp rfl)) ?_
            refine sq_plain rfl rfl rfl (w_callB rfl Tryd.call26 rfl (heldPlaces_spec (parseP s).1 1 hN) (flat_ik _ _) (evlb_cons (evb_lt (ev_tmp rfl) (lt_agg (lc_cons lt_refl (lc_cons (lt_arr (List.mem_of_getElem? (i := 3) rfl) le_refl_e) (lc_cons (lt_arr (List.mem_of_getElem? (i := 4) rfl) le_refl_e) lc_nil))))) (evlb_cons (evb (ev_tmp rfl)) evlb_nil))) ?_
            refine sq_plain rfl rfl rfl (w_assign rfl (ev_tmp rfl)) ?_
            refine sq_nil ?_
            refine awp_seq ?_
            refine awp_seq ?_
            refine awp_region ?_
            refine sq_plain rfl rfl rfl (w_move rfl (ev_tmp rfl)) ?_
            refine sq_plain rfl rfl rfl (w_lss rfl (ev_tmp rfl) ev_ci) ?_
            refine sq_nil ?_
            refine awp_cond (ev_tmp rfl) ?_ ?_
            · intro h62
              have k62 := of_decide_eq_true h62; try simp only [List.length_map] at k62
              refine awp_seq ?_
              refine awp_region ?_
              refine sq_plain rfl rfl rfl (w_assign rfl ev_cb) ?_
              refine sq_nil ?_
              refine awp_ret ?_
              exact retR rfl (rv_tmp' rfl (by first | rfl | (exfalso; simp_all [parseP_eq]; done) | (exfalso; simp_all [parseP_eq]; omega)))
            · intro h62
              have k62 := of_decide_eq_false h62; try simp only [List.length_map] at k62
              refine awp_skip ?_
              refine awp_seq ?_
              refine awp_seq ?_
              refine awp_region ?_
              refine sq_plain rfl rfl rfl (w_move rfl (ev_tmp rfl)) ?_
              refine sq_plain rfl rfl rfl (w_move rfl (ev_tmp rfl)) ?_
              refine sq_plain rfl rfl rfl (w_neq rfl (ev_tmp rfl) (ev_tmp rfl)) ?_
              refine sq_nil ?_
              refine awp_cond (ev_tmp rfl) ?_ ?_
              · intro h65
                have k65 := ne_of_bne h65; try simp only [List.length_map] at k65
                refine awp_seq ?_
                refine awp_region ?_
                refine sq_plain rfl rfl rfl (w_assign rfl ev_cb) ?_
                refine sq_nil ?_
                refine awp_ret ?_
                exact retR rfl (rv_tmp' rfl (by first | rfl | (exfalso; simp_all [parseP_eq]; done) | (exfalso; simp_all [parseP_eq]; omega)))
              · intro h65
                have k65 := eq_of_bne_false h65; try simp only [List.length_map] at k65
                refine awp_skip ?_
                refine awp_seq ?_
                refine awp_region ?_
                refine sq_plain rfl rfl rfl (w_assign rfl ev_cb) ?_
                refine sq_nil ?_
                refine awp_ret ?_
                exact retR rfl (rv_tmp' rfl (by first | rfl | (exfalso; simp_all [parseP_eq]; done) | (exfalso; simp_all [parseP_eq]; omega)))
end
set_option maxRecDepth 100000 in
theorem fnExactReadPlaces_lifted (os : Os) (started : os.Started) (H : Type) (enc : TypeId × Value → H) :
    ReturnsInHanded {} Tryd.checked os 7 .any (fun w args => (Rows.fnExactReadPlacesSpec.pre enc Tryd.prog Tryd.f7 [] false w args ∧ laidMetH Tryd.prog Rows.fnExactReadPlacesRow.laid w) ∧ sizedMet enc Tryd.prog Tryd.f7 (OpenSpec.ofChange Rows.fnExactReadPlacesSpec) false w args) (Rows.fnExactReadPlacesSpec.post enc Tryd.prog Tryd.f7 false true false false) := by
  refine Go.AV.handed_shaped (C := Tryd.checked) (X := fun w _ => laidMetH Tryd.prog Rows.fnExactReadPlacesRow.laid w) (fun _ _ _ hh h => h.of_heap hh) (by kernel_rfl) started (by kernel_rfl) Tryd.func7
    (ChangeSpec.witness_shaped (enc := enc) (C := Tryd.checked) (os := os) (X := fun w _ => laidMetH Tryd.prog Rows.fnExactReadPlacesRow.laid w) false (World.laidAll Tryd.prog os Rows.fnExactReadPlacesRow.laid) #[.string ⟨#[]⟩] 8 (World.laidAll_os _ _ _)
      (World.shaped_of_ZipB (by kernel_rfl) (by kernel_rfl)) (by kernel_rfl) (by kernel_rfl) (by kernel_rfl)
      (by rw [MakeChecks.laidMetH_plain _ _ _ (by kernel_rfl)]; exact laidMet_laidAll _ (by kernel_rfl) (by kernel_rfl))) ?_
  intro W base args ds gs before hval0 hW hsh _ hL _
  rw [MakeChecks.laidMetH_plain _ _ _ (by kernel_rfl)] at hL
  have hT : readW W := readW_of hL hsh
  have hval : ∀ (j : Nat) t v, Tryd.f7.params[j]? = some t → args[j]? = some v → Value.okWide Tryd.prog W .any base t v := hval0
  have hW2 := hW
  obtain ⟨p, q, hA0, hV, rfl, hfz, hnd⟩ := hW
  have hA : DataW.TrodAll enc Tryd.prog W 0 (fun _ => true) true Tryd.f7.params.toList args.toList ds p := hA0
  rw [Tryd.params7] at hA hval
  obtain ⟨v0, vs0, d0, ds0, p0, q0, hargs, rfl, rfl, h0, r0⟩ := trodAll_cons hA
  obtain ⟨rfl, rfl, rfl⟩ := trodAll_nil r0
  obtain rfl : args = #[v0] := by cases args; simp_all
  obtain ⟨rfl, rfl⟩ := trodVars_none hV
  have lt0 : ∀ x ∈ p0, x.block < W.heap.size := by obtain ⟨m, hm⟩ := h0; exact DataW.trod_lt m _ _ _ hm
  obtain ⟨a0, w0, g0⟩ := arg_one ((opens_str Tryd.underlying9)) (by obtain ⟨y, rfl⟩ := okWide_string Tryd.underlying9 (hval 0 9 v0 rfl rfl); rfl) h0
  have hcall := law_calls (fnExactReadPlaces_spec a0 w0) (DenV.cons ⟨g0, fun w2 hw2 => readW_heap hT hw2⟩ (DenV.nil _))
  clear hA0 hval0
  refine Calls.mono hcall fun e W2 ⟨he, bel⟩ => ?_
  subst he
  exact ⟨_, rfl, _, _, _, [], _, [], hW2, trodAll_mk1 (shut_bool Tryd.underlying4 _), (trodAll_cons_mk (Below.trod (by kernel_rfl : laidOutB Tryd.prog = true) (by kernel_rfl) (of_decide_eq_true (by kernel_rfl)) h0 bel lt0) trodAll_mk0), rfl, bel.frame _, fun h => by cases h⟩
theorem fnExactReadPlaces_and {a b : Bool} (h : a = true) (k : b = true) : (a && b) = true := by rw [h, k]; rfl
set_option maxRecDepth 100000 in
theorem fnExactReadPlaces_facts : joinedFacts Tryd.pinned.checked.prog 7 Tryd.f7 Rows.fnExactReadPlacesSpec Rows.fnExactReadPlacesRow = true := by
  unfold joinedFacts
  iterate 18 (rw [Bool.and_assoc])
  refine fnExactReadPlaces_and ?_ ?_
  · as_aux_lemma => kernel_rfl
  · as_aux_lemma => kernel_rfl
theorem fnExactReadPlaces_row : Rows.FnExactReadPlacesSaid :=
  OpenClaim.holds_of_wide 7 Tryd.f7 rfl rfl rfl rfl rfl rfl rfl ⟨rfl, rfl, rfl, rfl, rfl⟩ rfl rfl rfl rfl rfl (by kernel_rfl) Tryd.func7 fnExactReadPlaces_facts
    (of_decide_eq_true (by kernel_rfl)) (by unfold Func.isWrapper; first | (rw [if_pos (by decide +kernel)]; kernel_rfl) | (rw [if_neg (by decide +kernel)]; exact ⟨rfl, rfl⟩))
    (fun os started H enc _ => fnExactReadPlaces_lifted os started H enc)
theorem fnExactReadPlaces_proved : Rows.FnExactReadPlacesCardSaid :=
  Claim7.holds_tied_plain_at .later [] [.data, .data, .data, .data, .sentinel, .sentinel, .pinned] true (true, "7903b55ea66cd87d87188c1d3c70bfe37397061c8a9aa84cbe02af628d36de52") true
    fnExactReadPlaces_row (fun _ h => by cases h) (by kernel_rfl) (fun _ h => by cases h) fnExactReadPlaces_row_tie rfl ⟨rfl, rfl⟩ (by kernel_rfl) rfl
    (fun f fn hf hfn => by
      obtain rfl : f = 7 := Option.some.inj ((show Tryd.prog.funcNamed "loop.example/g00850/laws.FnExactReadPlaces" = some 7 by kernel_rfl).symm.trans hf) |>.symm
      obtain rfl : fn = Tryd.f7 := (Option.some.inj (Tryd.func7.symm.trans hfn)).symm
      exact ⟨by kernel_rfl, fun j t ht => by
        rw [Tryd.params7] at ht
        have hm : t ∈ [9] := by simpa using Array.mem_of_getElem? ht
        have hall : ([9].all fun u => !Tryd.prog.wantsStandIn u) = true := by kernel_rfl
        exact (show Tryd.prog.wantsStandIn t = false by simpa using List.all_eq_true.1 hall t hm)⟩)
    (by kernel_rfl)
end Go.Proofs.YtdgoejkijpllpaaDoor
