/- FnFeedText: for every drawn feed item its line is parsed back, and the program answers what the reference answers. The card ties variables of Go's library (tables, two sentinel errors) to their texts. -/
import Derived.Shelf.Strconv.Itoa3
import Derived.Test.YtdgoejkijpllpaaDoorProg
import Derived.Test.YtdgoejkijpllpaaDoorRows
import Derived.Lib.Split
import Derived.Lib.SplitLaws
import Derived.Lib.AtoiAllCases
import Derived.Lib.Strings
import Derived.Lib.IndexMore
import Derived.Lib.ConvBytes
import Derived.WideLaws
import Derived.SizedLaws
import Derived.Shelf.Strings.Split
import Derived.Shelf.Strings.Cut
import Derived.Shelf.Strings.Prefix
import Derived.Shelf.Strconv.ErrVarAll
import Derived.Shelf.Vars
import Derived.Stop.LaidErr
import Derived.Test.YtdgoejkijpllpaaDoorCards
import Derived.Test.YtdgoejkijpllpaaDoorTie
import Derived.Lay
import Derived.SevenTiedAt
import Derived.Test.YtdgoejkijpllpaaDoorZFeedText1

set_option linter.unusedVariables false
set_option linter.unusedSimpArgs false
set_option maxRecDepth 100000
namespace Go.Proofs.YtdgoejkijpllpaaDoor
open Go Go.AV Go.M
attribute [local irreducible] OpW OpA OpS AWP FSpec ESpec RetOk RvDen Le Ev GuardIs
theorem isTime_spec (t : Int) : FSpec Tryd.prog 58 [AV.int t] (AV.bool (isTime t)) := by
  refine spec_of_awp Tryd.func58 rfl Tryd.ntmps58 rfl ?_
  refine awp_seq ?_
  refine awp_region ?_
  refine sq_plain rfl rfl rfl (w_assign rfl ev_cb) ?_
  refine sq_nil ?_
  refine awp_seq ?_
  refine awp_region ?_
  refine sq_plain rfl rfl rfl (w_move rfl (ev_tmp rfl)) ?_
  refine sq_plain rfl rfl rfl (w_call rfl Tryd.call65 rfl (within_spec _ _ _) (evl_cons (ev_tmp rfl) (evl_cons ev_ci (evl_cons ev_ci evl_nil)))) ?_
  refine sq_plain rfl rfl rfl (w_assign rfl (ev_tmp rfl)) ?_
  refine sq_nil ?_
  refine awp_ret ?_
  exact retR rfl (rv_tmp' rfl (by first | rfl | (refine congrArg AV.bool ?_; simp_all; done)))
theorem isGroup_spec (t : Int) : FSpec Tryd.prog 59 [AV.int t] (AV.bool (isGroup t)) := by
  refine spec_of_awp Tryd.func59 rfl Tryd.ntmps59 rfl ?_
  refine awp_seq ?_
  refine awp_region ?_
  refine sq_plain rfl rfl rfl (w_assign rfl ev_cb) ?_
  refine sq_nil ?_
  refine awp_seq ?_
  refine awp_region ?_
  refine sq_plain rfl rfl rfl (w_move rfl (ev_tmp rfl)) ?_
  refine sq_plain rfl rfl rfl (w_call rfl Tryd.call65 rfl (within_spec _ _ _) (evl_cons (ev_tmp rfl) (evl_cons ev_ci (evl_cons ev_ci evl_nil)))) ?_
  refine sq_plain rfl rfl rfl (w_assign rfl (ev_tmp rfl)) ?_
  refine sq_nil ?_
  refine awp_ret ?_
  exact retR rfl (rv_tmp' rfl (by first | rfl | (refine congrArg AV.bool ?_; simp_all; done)))
theorem isStored_spec (s : Str) (g : Bool) (hs : s.length ≤ 4611686018427387904) : FSpec Tryd.prog 61 [AV.str s, AV.bool g] (AV.bool (isStored s g)) := by
  refine spec_of_awp Tryd.func61 rfl Tryd.ntmps61 rfl ?_
  refine awp_seq ?_
  refine awp_region ?_
  refine sq_plain rfl rfl rfl (w_assign rfl ev_cb) ?_
  refine sq_nil ?_
  refine awp_seq ?_
  refine awp_region ?_
  refine sq_plain rfl rfl rfl (w_move rfl (ev_tmp rfl)) ?_
  refine sq_plain rfl rfl rfl (w_call rfl Tryd.call80 rfl (goodVal_spec _ (by omega)) (evl_cons (ev_tmp rfl) evl_nil)) ?_
  refine sq_plain rfl rfl rfl (w_move rfl (ev_tmp rfl)) ?_
  refine sq_grd rfl rfl (guard_t rfl rfl rfl) (fun hc => w_move rfl (ev_tmp rfl)) ?_
  refine sq_grd rfl rfl (guard_t rfl rfl rfl) (fun hc => w_move rfl (ev_whn rfl hc)) ?_
  refine sq_grd rfl rfl (guard_wt rfl rfl rfl) (fun hc => w_move rfl (ev_tmp rfl)) ?_
  refine sq_grd rfl rfl (guard_wt rfl rfl rfl) (fun hc => w_sneq rfl (ev_whn rfl hc) (ev_cs' (l := []) rfl)) ?_
  refine sq_grd rfl rfl (guard_t rfl rfl rfl) (fun hc => w_and rfl (ev_whn rfl hc) (evif_w2 rfl hc)) ?_
  refine sq_grd rfl rfl (guard_t rfl rfl rfl) (fun hc => w_not rfl (ev_whn rfl hc)) ?_
  refine sq_plain rfl rfl rfl (w_and rfl (ev_tmp rfl) (evif_w rfl)) ?_
  refine sq_plain rfl rfl rfl (w_assign rfl (ev_tmp rfl)) ?_
  refine sq_nil ?_
  refine awp_ret ?_
  exact retR rfl (rv_tmp' rfl (by first | rfl | (refine congrArg AV.bool ?_; simp_all; done)))
theorem goodItem_spec (c : TFeedItem) (hs : c.size ≤ 1048576) : FSpec Tryd.prog 29 [AV.agg c.cs] (AV.bool (goodItem c)) := by
  have hs' := hs; unfold TFeedItem.size at hs'
  refine spec_of_awp Tryd.func29 rfl Tryd.ntmps29 rfl ?_
  refine awp_seq ?_
  refine awp_region ?_
  refine sq_box rfl rfl rfl rfl (ev_tmp rfl) ?_
  intro b1
  refine sq_plain rfl rfl rfl (w_assign rfl ev_cb) ?_
  refine sq_nil ?_
  refine awp_seq ?_
  refine awp_region ?_
  refine sq_plain rfl rfl rfl (w_fldBn 0 rfl Tryd.underlying27 rfl Tryd.sizeOf3 (ev_tmp rfl) rfl) ?_
  refine sq_plain rfl rfl rfl (w_loadB1 0 rfl (ev_tmp rfl) rfl Tryd.isAgg3 rfl) ?_
  refine sq_plain rfl rfl rfl (w_call rfl Tryd.call58 rfl (isTime_spec _) (evl_cons (ev_tmp rfl) evl_nil)) ?_
  refine sq_plain rfl rfl rfl (w_move rfl (ev_tmp rfl)) ?_
  refine sq_grd rfl rfl (guard_t rfl rfl rfl) (fun hc => w_fldBn 1 rfl Tryd.underlying27 rfl Tryd.sizeOf3 (ev_tmp rfl) rfl) ?_
  refine sq_grd rfl rfl (guard_t rfl rfl rfl) (fun hc => w_loadB1 0 rfl (ev_whn rfl hc) rfl Tryd.isAgg3 rfl) ?_
  refine sq_grd rfl rfl (guard_t rfl rfl rfl) (fun hc => w_call rfl Tryd.call59 rfl (isGroup_spec _) (evl_cons (ev_whn rfl hc) evl_nil)) ?_
  refine sq_plain rfl rfl rfl (w_and rfl (ev_tmp rfl) (evif_w rfl)) ?_
  refine sq_plain rfl rfl rfl (w_move rfl (ev_tmp rfl)) ?_
  refine sq_grd rfl rfl (guard_t rfl rfl rfl) (fun hc => w_fldBn 2 rfl Tryd.underlying27 rfl Tryd.sizeOf9 (ev_tmp rfl) rfl) ?_
  refine sq_grd rfl rfl (guard_t rfl rfl rfl) (fun hc => w_loadB1 0 rfl (ev_whn rfl hc) rfl Tryd.isAgg9 rfl) ?_
  refine sq_grd rfl rfl (guard_t rfl rfl rfl) (fun hc => w_call rfl Tryd.call60 rfl (goodKey_spec _ (by omega)) (evl_cons (ev_whn rfl hc) evl_nil)) ?_
  refine sq_plain rfl rfl rfl (w_and rfl (ev_tmp rfl) (evif_w rfl)) ?_
  refine sq_plain rfl rfl rfl (w_move rfl (ev_tmp rfl)) ?_
  refine sq_grd rfl rfl (guard_t rfl rfl rfl) (fun hc => w_fldBn 3 rfl Tryd.underlying27 rfl Tryd.sizeOf9 (ev_tmp rfl) rfl) ?_
  refine sq_grd rfl rfl (guard_t rfl rfl rfl) (fun hc => w_loadB1 0 rfl (ev_whn rfl hc) rfl Tryd.isAgg9 rfl) ?_
  refine sq_grd rfl rfl (guard_t rfl rfl rfl) (fun hc => w_fldBn 4 rfl Tryd.underlying27 rfl Tryd.sizeOf4 (ev_tmp rfl) rfl) ?_
  refine sq_grd rfl rfl (guard_t rfl rfl rfl) (fun hc => w_loadB1 0 rfl (ev_whn rfl hc) rfl Tryd.isAgg4 rfl) ?_
  refine sq_grd rfl rfl (guard_t rfl rfl rfl) (fun hc => w_call rfl Tryd.call61 rfl (isStored_spec _ _ (by omega)) (evl_cons (ev_whn rfl hc) (evl_cons (ev_whn rfl hc) evl_nil))) ?_
  refine sq_plain rfl rfl rfl (w_and rfl (ev_tmp rfl) (evif_w rfl)) ?_
  refine sq_plain rfl rfl rfl (w_assign rfl (ev_tmp rfl)) ?_
  refine sq_nil ?_
  refine awp_ret ?_
  exact retR rfl (rv_tmp' rfl (by first | rfl | (refine congrArg AV.bool ?_; simp_all; done)))
theorem l3Val_spec (s : Str) (hs : s.length ≤ 4611686018427387904) : FSpec Tryd.prog 78 [AV.str s] (AV.bool (l3Val s)) := by
  refine spec_of_awp Tryd.func78 rfl Tryd.ntmps78 rfl ?_
  refine awp_seq ?_
  refine awp_region ?_
  refine sq_plain rfl rfl rfl (w_assign rfl ev_cb) ?_
  refine sq_nil ?_
  refine awp_seq ?_
  refine awp_region ?_
  refine sq_plain rfl rfl rfl (w_move rfl (ev_tmp rfl)) ?_
  refine sq_plain rfl rfl rfl (w_slen rfl Tryd.underlying9 (ev_tmp rfl)) ?_
  refine sq_plain rfl rfl rfl (w_leq rfl (ev_tmp rfl) ev_ci) ?_
  refine sq_plain rfl rfl rfl (w_move rfl (ev_tmp rfl)) ?_
  refine sq_grd rfl rfl (guard_t rfl rfl rfl) (fun hc => w_move rfl (ev_tmp rfl)) ?_
  refine sq_grd rfl rfl (guard_t rfl rfl rfl) (fun hc => w_call rfl Tryd.call82 rfl (l3Bytes_spec _ _ (by omega) (by decide)) (evl_cons (ev_whn rfl hc) (evl_cons (ev_cs' (l := [46, 45, 44, 95]) rfl) evl_nil))) ?_
  refine sq_plain rfl rfl rfl (w_and rfl (ev_tmp rfl) (evif_w rfl)) ?_
  refine sq_plain rfl rfl rfl (w_assign rfl (ev_tmp rfl)) ?_
  refine sq_nil ?_
  refine awp_ret ?_
  exact retR rfl (rv_tmp' rfl (by first | rfl | (refine congrArg AV.bool ?_; simp_all; done)))
theorem l3Write_spec (k s : Str) (g : Bool) (hk : k.length ≤ 4611686018427387904) (hs : s.length ≤ 4611686018427387904) : FSpec Tryd.prog 56 [AV.str k, AV.str s, AV.bool g] (AV.bool (l3Write k s g)) := by
  refine spec_of_awp Tryd.func56 rfl Tryd.ntmps56 rfl ?_
  refine awp_seq ?_
  refine awp_region ?_
  refine sq_plain rfl rfl rfl (w_assign rfl ev_cb) ?_
  refine sq_nil ?_
  refine awp_seq ?_
  refine awp_region ?_
  refine sq_plain rfl rfl rfl (w_move rfl (ev_tmp rfl)) ?_
  refine sq_plain rfl rfl rfl (w_call rfl Tryd.call63 rfl (l3Key_spec _ (by omega)) (evl_cons (ev_tmp rfl) evl_nil)) ?_
  refine sq_plain rfl rfl rfl (w_move rfl (ev_tmp rfl)) ?_
  refine sq_grd rfl rfl (guard_t rfl rfl rfl) (fun hc => w_move rfl (ev_tmp rfl)) ?_
  refine sq_grd rfl rfl (guard_t rfl rfl rfl) (fun hc => w_call rfl Tryd.call78 rfl (l3Val_spec _ (by omega)) (evl_cons (ev_whn rfl hc) evl_nil)) ?_
  refine sq_plain rfl rfl rfl (w_and rfl (ev_tmp rfl) (evif_w rfl)) ?_
  refine sq_plain rfl rfl rfl (w_move rfl (ev_tmp rfl)) ?_
  refine sq_grd rfl rfl (guard_t rfl rfl rfl) (fun hc => w_move rfl (ev_tmp rfl)) ?_
  refine sq_grd rfl rfl (guard_t rfl rfl rfl) (fun hc => w_not rfl (ev_whn rfl hc)) ?_
  refine sq_grd rfl rfl (guard_t rfl rfl rfl) (fun hc => w_move rfl (ev_whn rfl hc)) ?_
  refine sq_grd rfl rfl (guard_wf rfl rfl rfl) (fun hc => w_move rfl (ev_tmp rfl)) ?_
  refine sq_grd rfl rfl (guard_wf rfl rfl rfl) (fun hc => w_seql rfl (ev_whn rfl hc) (ev_cs' (l := []) rfl)) ?_
  refine sq_grd rfl rfl (guard_t rfl rfl rfl) (fun hc => w_or rfl (ev_whn rfl hc) (evif_w2 rfl hc)) ?_
  refine sq_plain rfl rfl rfl (w_and rfl (ev_tmp rfl) (evif_w rfl)) ?_
  refine sq_plain rfl rfl rfl (w_assign rfl (ev_tmp rfl)) ?_
  refine sq_nil ?_
  refine awp_ret ?_
  exact retR rfl (rv_tmp' rfl (by first | rfl | (refine congrArg AV.bool ?_; simp_all; done)))
theorem l23Good_spec (c : TFeedItem) (hs : c.size ≤ 1048576) : FSpec Tryd.prog 27 [AV.agg c.cs] (AV.bool (l23Good c)) := by
  have hs' := hs; unfold TFeedItem.size at hs'
  refine spec_of_awp Tryd.func27 rfl Tryd.ntmps27 rfl ?_
  refine awp_seq ?_
  refine awp_region ?_
  refine sq_box rfl rfl rfl rfl (ev_tmp rfl) ?_
  intro b1
  refine sq_plain rfl rfl rfl (w_assign rfl ev_cb) ?_
  refine sq_nil ?_
  refine awp_seq ?_
  refine awp_region ?_
  refine sq_plain rfl rfl rfl (w_fldBn 0 rfl Tryd.underlying27 rfl Tryd.sizeOf3 (ev_tmp rfl) rfl) ?_
  refine sq_plain rfl rfl rfl (w_loadB1 0 rfl (ev_tmp rfl) rfl Tryd.isAgg3 rfl) ?_
  refine sq_plain rfl rfl rfl (w_call rfl Tryd.call55 rfl (l1In_spec _ _ _) (evl_cons (ev_tmp rfl) (evl_cons ev_ci (evl_cons ev_ci evl_nil)))) ?_
  refine sq_plain rfl rfl rfl (w_move rfl (ev_tmp rfl)) ?_
  refine sq_grd rfl rfl (guard_t rfl rfl rfl) (fun hc => w_fldBn 1 rfl Tryd.underlying27 rfl Tryd.sizeOf3 (ev_tmp rfl) rfl) ?_
  refine sq_grd rfl rfl (guard_t rfl rfl rfl) (fun hc => w_loadB1 0 rfl (ev_whn rfl hc) rfl Tryd.isAgg3 rfl) ?_
  refine sq_grd rfl rfl (guard_t rfl rfl rfl) (fun hc => w_call rfl Tryd.call55 rfl (l1In_spec _ _ _) (evl_cons (ev_whn rfl hc) (evl_cons ev_ci (evl_cons ev_ci evl_nil)))) ?_
  refine sq_plain rfl rfl rfl (w_and rfl (ev_tmp rfl) (evif_w rfl)) ?_
  refine sq_plain rfl rfl rfl (w_move rfl (ev_tmp rfl)) ?_
  refine sq_grd rfl rfl (guard_t rfl rfl rfl) (fun hc => w_fldBn 2 rfl Tryd.underlying27 rfl Tryd.sizeOf9 (ev_tmp rfl) rfl) ?_
  refine sq_grd rfl rfl (guard_t rfl rfl rfl) (fun hc => w_loadB1 0 rfl (ev_whn rfl hc) rfl Tryd.isAgg9 rfl) ?_
  refine sq_grd rfl rfl (guard_t rfl rfl rfl) (fun hc => w_fldBn 3 rfl Tryd.underlying27 rfl Tryd.sizeOf9 (ev_tmp rfl) rfl) ?_
  refine sq_grd rfl rfl (guard_t rfl rfl rfl) (fun hc => w_loadB1 0 rfl (ev_whn rfl hc) rfl Tryd.isAgg9 rfl) ?_
  refine sq_grd rfl rfl (guard_t rfl rfl rfl) (fun hc => w_fldBn 4 rfl Tryd.underlying27 rfl Tryd.sizeOf4 (ev_tmp rfl) rfl) ?_
  refine sq_grd rfl rfl (guard_t rfl rfl rfl) (fun hc => w_loadB1 0 rfl (ev_whn rfl hc) rfl Tryd.isAgg4 rfl) ?_
  refine sq_grd rfl rfl (guard_t rfl rfl rfl) (fun hc => w_call rfl Tryd.call56 rfl (l3Write_spec _ _ _ (by omega) (by omega)) (evl_cons (ev_whn rfl hc) (evl_cons (ev_whn rfl hc) (evl_cons (ev_whn rfl hc) evl_nil)))) ?_
  refine sq_plain rfl rfl rfl (w_and rfl (ev_tmp rfl) (evif_w rfl)) ?_
  refine sq_plain rfl rfl rfl (w_assign rfl (ev_tmp rfl)) ?_
  refine sq_nil ?_
  refine awp_ret ?_
  exact retR rfl (rv_tmp' rfl (by first | rfl | (refine congrArg AV.bool ?_; simp_all; done)))
end Go.Proofs.YtdgoejkijpllpaaDoor

namespace Go.Proofs
open Go.Shelf
set_option linter.unusedVariables false
def Tryd.itoa_ren : Go.Shelf.Ren := ⟨fun | 171 => 62 | 243 => 81 | 246 => 96 | 283 => 109 | 284 => 110 | 285 => 111 | 286 => 112 | 129 => 120 | 317 => 119 | 318 => 121 | 319 => 122 | 320 => 123 | 337 => 126 | 338 => 127 | n => n, fun | 3 => 3 | 9 => 9 | 2 => 2 | 4 => 4 | 171 => 112 | 0 => 0 | 53 => 70 | 37 => 44 | 5 => 5 | 173 => 115 | 212 => 127 | 51 => 123 | 20 => 20 | 213 => 128 | 46 => 111 | 232 => 140 | 233 => 141 | n => n, fun | 17 => 3 | 18 => 6 | 19 => 7 | n => n⟩
theorem Tryd.itoa : Go.Proofs.LaysM.n171 Tryd.prog Tryd.itoa_ren := {
  mixed := by kernel_rfl
  f129 := Tryd.func120.trans (congrArg some (by kernel_rfl))
  f171 := Tryd.func62.trans (congrArg some (by kernel_rfl))
  f243 := Tryd.func81.trans (congrArg some (by kernel_rfl))
  f246 := Tryd.func96.trans (congrArg some (by kernel_rfl))
  f283 := Tryd.func109.trans (congrArg some (by kernel_rfl))
  f284 := Tryd.func110.trans (congrArg some (by kernel_rfl))
  f285 := Tryd.func111.trans (congrArg some (by kernel_rfl))
  f286 := Tryd.func112.trans (congrArg some (by kernel_rfl))
  f317 := Tryd.func119.trans (congrArg some (by kernel_rfl))
  f318 := Tryd.func121.trans (congrArg some (by kernel_rfl))
  f319 := Tryd.func122.trans (congrArg some (by kernel_rfl))
  f320 := Tryd.func123.trans (congrArg some (by kernel_rfl))
  f337 := Tryd.func126.trans (congrArg some (by kernel_rfl))
  f338 := Tryd.func127.trans (congrArg some (by kernel_rfl))
  t0 := Tryd.underlying0
  a0 := Tryd.isAgg0
  z0 := Tryd.sizeOf0
  v0 := Tryd.zeroValue0
  t2 := Tryd.underlying2
  a2 := Tryd.isAgg2
  z2 := Tryd.sizeOf2
  v2 := Tryd.zeroValue2
  t3 := Tryd.underlying3
  a3 := Tryd.isAgg3
  z3 := Tryd.sizeOf3
  v3 := Tryd.zeroValue3
  t4 := Tryd.underlying4
  a4 := Tryd.isAgg4
  z4 := Tryd.sizeOf4
  v4 := Tryd.zeroValue4
  t5 := Tryd.underlying5
  a5 := Tryd.isAgg5
  z5 := Tryd.sizeOf5
  v5 := Tryd.zeroValue5
  t9 := Tryd.underlying9
  a9 := Tryd.isAgg9
  z9 := Tryd.sizeOf9
  v9 := Tryd.zeroValue9
  t20 := Tryd.underlying20
  a20 := Tryd.isAgg20
  z20 := Tryd.sizeOf20
  v20 := Tryd.zeroValue20
  t37 := Tryd.underlying44
  a37 := Tryd.isAgg44
  z37 := Tryd.sizeOf44
  v37 := Tryd.zeroValue44
  t46 := Tryd.underlying111
  a46 := Tryd.isAgg111
  z46 := Tryd.sizeOf111
  v46 := Tryd.zeroValue111
  t51 := Tryd.underlying123
  a51 := Tryd.isAgg123
  z51 := Tryd.sizeOf123
  v51 := Tryd.zeroValue123
  t53 := Tryd.underlying70
  a53 := Tryd.isAgg70
  z53 := Tryd.sizeOf70
  v53 := Tryd.zeroValue70
  t171 := Tryd.underlying112
  a171 := Tryd.isAgg112
  z171 := Tryd.sizeOf112
  v171 := Tryd.zeroValue112
  t173 := Tryd.underlying115
  a173 := Tryd.isAgg115
  z173 := Tryd.sizeOf115
  v173 := Tryd.zeroValue115
  t212 := Tryd.underlying127
  a212 := Tryd.isAgg127
  z212 := Tryd.sizeOf127
  v212 := Tryd.zeroValue127
  t213 := Tryd.underlying128
  a213 := Tryd.isAgg128
  z213 := Tryd.sizeOf128
  t232 := Tryd.underlying140
  a232 := Tryd.isAgg140
  z232 := Tryd.sizeOf140
  v232 := Tryd.zeroValue140
  t233 := Tryd.underlying141
  a233 := Tryd.isAgg141
  z233 := Tryd.sizeOf141
  v233 := Tryd.zeroValue141
  g17 := by kernel_rfl
  g18 := by kernel_rfl
  g19 := by kernel_rfl
  i0 := by kernel_rfl
  i2 := by kernel_rfl
  i3 := by kernel_rfl
  i4 := by kernel_rfl
  i5 := by kernel_rfl
  i9 := by kernel_rfl
  i20 := by kernel_rfl
  i37 := by kernel_rfl
  i46 := by kernel_rfl
  i51 := by kernel_rfl
  i53 := by kernel_rfl
  i171 := by kernel_rfl
  i173 := by kernel_rfl
  i212 := by kernel_rfl
  i232 := by kernel_rfl
  i233 := by kernel_rfl
  m17 := by kernel_rfl
  m18 := by kernel_rfl
  m19 := by kernel_rfl }
end Go.Proofs

set_option linter.unusedVariables false
set_option linter.unusedSimpArgs false
set_option maxRecDepth 100000
namespace Go.Proofs.YtdgoejkijpllpaaDoor
open Go Go.AV Go.M
attribute [local irreducible] OpW OpA OpS AWP FSpec ESpec GSpec OpE RetOk RetOkG RvDen Le Ev GuardIs SrcIs Int.tmod Int.tdiv IntKind.wrap
def tabW (w : World) : Prop := Lib.TabIs Tryd.prog w "internal/strconv.uint64pow10" .u64 Lib.pow10Tab
theorem tabW_heap {W w' : World} (h : tabW W) (hw : RLe (heapR W) w') : tabW w' := tabIs_heap h hw
theorem tabW_head {W : World} {rest : List (String × DataW Unit)} (h : laidMet Tryd.prog (("internal/strconv.uint64pow10", Lib.tabData .u64 Lib.pow10Tab) :: rest) W) : tabW W :=
  Lib.tabIs_of_head (g := 3) (t := 127) (by kernel_rfl) (by kernel_rfl) Tryd.underlying127 Tryd.underlying70 (by kernel_rfl) (by kernel_rfl) h
theorem itoa_spec (n : Int) (h : -9223372036854775808 ≤ n ∧ n ≤ 9223372036854775807) : FSpec Tryd.prog 62 [AV.wt tabW (AV.int n)] (AV.str (itoaD n)) :=
  fspec_wt fun R w v hr hv hT => by
    rw [show v = Value.int .i64 n from hv]
    refine (Any.strconv_Itoa Tryd.itoa n h.1 h.2 w hT).mono ?_
    rintro e w' ⟨rfl, k, os, rfl⟩
    exact ⟨_, rfl, rfl, below_grown w k os⟩
theorem l1Num_spec (n : Nat) : n ≤ 1000000000000 → FSpec Tryd.prog 57 [AV.int n] (AV.str (decD n)) := by
  induction n using Nat.strongRecOn with
  | ind n ih =>
    intro hn
    refine spec_of_awp Tryd.func57 rfl Tryd.ntmps57 rfl ?_
    refine awp_seq ?_
    refine awp_region ?_
    refine sq_plain rfl rfl rfl (w_assign rfl (ev_cs' (l := []) rfl)) ?_
    refine sq_nil ?_
    refine awp_seq ?_
    refine awp_seq ?_
    refine awp_region ?_
    refine sq_plain rfl rfl rfl (w_move rfl (ev_tmp rfl)) ?_
    refine sq_plain rfl rfl rfl (w_lss rfl (ev_tmp rfl) ev_ci) ?_
    refine sq_nil ?_
    refine awp_cond (ev_tmp rfl) ?_ ?_
    · intro h4
      have k4 := of_decide_eq_true h4; try simp only [List.length_map] at k4
      have hn10 : n < 10 := by omega
      refine awp_seq ?_
      refine awp_region ?_
      refine sq_plain rfl rfl rfl (w_move rfl (ev_tmp rfl)) ?_
      refine sq_plain rfl rfl rfl (w_addi rfl ev_ci (ev_tmp rfl) (by first | omega | ((try simp only [List.length_map, List.length_take, List.length_cons, List.length_nil, chunks_len, szR] at *); omega) | (have hc2 := hc; simp only [Bool.and_eq_true, Bool.or_eq_true, Bool.or_eq_false_iff, Bool.and_eq_false_iff, Bool.not_eq_true', Bool.not_eq_false', decide_eq_true_eq, decide_eq_false_iff_not, beq_iff_eq, bne_iff_ne, List.length_map, List.length_take] at hc2; omega))) ?_
      refine sq_plain rfl rfl rfl (w_conv rfl (by kernel_rfl) Tryd.underlying5 (ev_tmp rfl)) ?_
      rw [dig1]
      refine sq_plain rfl rfl rfl (w_bslice rfl Tryd.underlying44 Tryd.sizeOf5 Tryd.zeroValue5 rfl rfl rfl rfl (bp_cons (ev_tmp rfl) (as_ik _ _) bp_nil) rfl rfl) ?_
      refine sq_plain rfl rfl rfl (w_convB (bs := [UInt8.ofNat (48 + n)]) rfl Tryd.underlying44 Tryd.underlying5 Tryd.underlying9 (ev_tmp rfl)) ?_
      refine sq_plain rfl rfl rfl (w_assign rfl (ev_tmp rfl)) ?_
      refine sq_nil ?_
      refine awp_ret ?_
      exact retR rfl (rv_tmp' rfl (by first | exact congrArg AV.str (decD_small hn10).symm | exact congrArg AV.str (decD_big hn10).symm))
    · intro h4
      have k4 := of_decide_eq_false h4; try simp only [List.length_map] at k4
      have hn10 : ¬ n < 10 := by omega
      have hdl := decD_len (k := 12) (n := n / 10) (by omega) (by decide)
      refine awp_skip ?_
      refine awp_seq ?_
      refine awp_region_any (by kernel_rfl) (by kernel_rfl) rfl ?_
      refine ch_plain rfl rfl (w_move rfl (ev_tmp rfl)) ?_
      refine ch_plain rfl rfl (w_quo rfl (ev_tmp rfl) ev_ci (by decide)) ?_
      rw [quo10 hn]
      refine ch_plain rfl rfl (w_call rfl Tryd.call57 rfl (ih (n / 10) (by omega) (by omega)) (evl_cons (ev_tmp rfl) evl_nil)) ?_
      refine ch_plain rfl rfl (w_move rfl (ev_tmp rfl)) ?_
      refine ch_plain rfl rfl (w_rem rfl (ev_tmp rfl) ev_ci (by decide)) ?_
      refine ch_plain rfl rfl (w_addi rfl ev_ci (ev_tmp rfl) (by rw [tmod10]; omega)) ?_
      refine ch_plain rfl rfl (w_conv rfl (by kernel_rfl) Tryd.underlying5 (ev_tmp rfl)) ?_
      rw [dig2]
      refine ch_plain rfl rfl (w_bslice rfl Tryd.underlying44 Tryd.sizeOf5 Tryd.zeroValue5 rfl rfl rfl rfl (bp_cons (ev_tmp rfl) (as_ik _ _) bp_nil) rfl rfl) ?_
      refine ch_plain rfl rfl (w_convB (bs := [UInt8.ofNat (48 + n % 10)]) rfl Tryd.underlying44 Tryd.underlying5 Tryd.underlying9 (ev_tmp rfl)) ?_
      refine ch_plain rfl rfl (w_cat rfl (ev_tmp rfl) (ev_tmp rfl) (by first | omega | (simp only [List.length_append, List.length_take, List.length_drop, List.length_cons, List.length_nil]; omega))) ?_
      refine ch_plain rfl rfl (w_assign rfl (ev_tmp rfl)) ?_
      refine ch_nil ?_
      refine awp_ret ?_
      exact retR rfl (rv_tmp' rfl (by first | exact congrArg AV.str (decD_small hn10).symm | exact congrArg AV.str (decD_big hn10).symm))
theorem feedLine_spec (c : TFeedItem) (hs : c.size ≤ 1048576) (hg : goodItem c = true) : FSpec Tryd.prog 30 [AV.wt tabW (AV.agg c.cs)] (AV.str (lineB c)) := by
  have hs' := hs; unfold TFeedItem.size at hs'
  obtain ⟨hq1, hq2⟩ := goodItem_nums hg
  have hl1 := itoa_len (n := c.Time) (by omega)
  have hl2 := itoa_len (n := c.Group) (by omega)
  refine spec_of_awp Tryd.func30 rfl Tryd.ntmps30 rfl ?_
  refine AWP.le (le_tab (t := 0) rfl) ?_
  refine awp_seq ?_
  refine awp_region ?_
  refine sq_box rfl rfl rfl rfl (ev_tmp rfl) ?_
  intro b1
  refine sq_plain rfl rfl rfl (w_assign rfl (ev_cs' (l := []) rfl)) ?_
  refine sq_nil ?_
  refine awp_seq ?_
  refine awp_region_any (by kernel_rfl) (by kernel_rfl) rfl ?_
  refine ch_plain rfl rfl (w_fldBn 0 rfl Tryd.underlying27 rfl Tryd.sizeOf3 (ev_tmp rfl) rfl) ?_
  refine ch_plain rfl rfl (w_loadB1 0 rfl (ev_tmp rfl) rfl Tryd.isAgg3 rfl) ?_
  refine ch_plain rfl rfl (w_callB rfl Tryd.call62 rfl (itoa_spec _ (by first | assumption | omega)) (flat_str _) (evlb_cons (evb_wt 1 rfl (by first | exact fun _ h => h | exact fun _ h => h.1) (evb (ev_tmp rfl))) evlb_nil)) ?_
  refine ch_plain rfl rfl (w_cat rfl (ev_tmp rfl) (ev_cs' (l := [32]) rfl) (by first | omega | (simp only [List.length_append, List.length_take, List.length_drop, List.length_cons, List.length_nil]; omega))) ?_
  refine ch_plain rfl rfl (w_fldBn 1 rfl Tryd.underlying27 rfl Tryd.sizeOf3 (ev_tmp rfl) rfl) ?_
  refine ch_plain rfl rfl (w_loadB1 0 rfl (ev_tmp rfl) rfl Tryd.isAgg3 rfl) ?_
  refine ch_plain rfl rfl (w_callB rfl Tryd.call62 rfl (itoa_spec _ (by first | assumption | omega)) (flat_str _) (evlb_cons (evb_wt 1 rfl (by first | exact fun _ h => h | exact fun _ h => h.1) (evb (ev_tmp rfl))) evlb_nil)) ?_
  refine ch_plain rfl rfl (w_cat rfl (ev_tmp rfl) (ev_tmp rfl) (by first | omega | (simp only [List.length_append, List.length_take, List.length_drop, List.length_cons, List.length_nil]; omega))) ?_
  refine ch_plain rfl rfl (w_cat rfl (ev_tmp rfl) (ev_cs' (l := [32]) rfl) (by first | omega | (simp only [List.length_append, List.length_take, List.length_drop, List.length_cons, List.length_nil]; omega))) ?_
  refine ch_plain rfl rfl (w_fldBn 2 rfl Tryd.underlying27 rfl Tryd.sizeOf9 (ev_tmp rfl) rfl) ?_
  refine ch_plain rfl rfl (w_loadB1 0 rfl (ev_tmp rfl) rfl Tryd.isAgg9 rfl) ?_
  refine ch_plain rfl rfl (w_cat rfl (ev_tmp rfl) (ev_tmp rfl) (by first | omega | (simp only [List.length_append, List.length_take, List.length_drop, List.length_cons, List.length_nil]; omega))) ?_
  refine ch_plain rfl rfl (w_assign rfl (ev_tmp rfl)) ?_
  refine ch_nil ?_
  refine awp_seq ?_
  refine awp_seq ?_
  refine awp_region ?_
  refine sq_plain rfl rfl rfl (w_fldBn 4 rfl Tryd.underlying27 rfl Tryd.sizeOf4 (ev_tmp rfl) rfl) ?_
  refine sq_plain rfl rfl rfl (w_loadB1 0 rfl (ev_tmp rfl) rfl Tryd.isAgg4 rfl) ?_
  refine sq_nil ?_
  refine awp_cond (ev_tmp rfl) ?_ ?_
  · intro h17
    refine awp_seq ?_
    refine awp_region ?_
    refine sq_plain rfl rfl rfl (w_move rfl (ev_tmp rfl)) ?_
    refine sq_plain rfl rfl rfl (w_cat rfl (ev_tmp rfl) (ev_cs' (l := [33]) rfl) (by first | omega | (simp only [List.length_append, List.length_take, List.length_drop, List.length_cons, List.length_nil]; omega))) ?_
    refine sq_plain rfl rfl rfl (w_assign rfl (ev_tmp rfl)) ?_
    refine sq_nil ?_
    refine awp_ret ?_
    exact retR rfl (rv_tmp' rfl (by first | rfl | exact congrArg AV.str (by unfold lineB; simp_all)))
  · intro h17
    refine awp_skip ?_
    refine awp_seq ?_
    refine awp_region ?_
    refine sq_plain rfl rfl rfl (w_move rfl (ev_tmp rfl)) ?_
    refine sq_plain rfl rfl rfl (w_cat rfl (ev_tmp rfl) (ev_cs' (l := [61]) rfl) (by first | omega | (simp only [List.length_append, List.length_take, List.length_drop, List.length_cons, List.length_nil]; omega))) ?_
    refine sq_plain rfl rfl rfl (w_fldBn 3 rfl Tryd.underlying27 rfl Tryd.sizeOf9 (ev_tmp rfl) rfl) ?_
    refine sq_plain rfl rfl rfl (w_loadB1 0 rfl (ev_tmp rfl) rfl Tryd.isAgg9 rfl) ?_
    refine sq_plain rfl rfl rfl (w_cat rfl (ev_tmp rfl) (ev_tmp rfl) (by first | omega | (simp only [List.length_append, List.length_take, List.length_drop, List.length_cons, List.length_nil]; omega))) ?_
    refine sq_plain rfl rfl rfl (w_assign rfl (ev_tmp rfl)) ?_
    refine sq_nil ?_
    refine awp_ret ?_
    exact retR rfl (rv_tmp' rfl (by first | rfl | exact congrArg AV.str (by unfold lineB; simp_all)))
theorem l23LineG_spec (c : TFeedItem) (hs : c.size ≤ 1048576) (hq1 : 0 ≤ c.Time ∧ c.Time ≤ 100000) (hq2 : 0 ≤ c.Group ∧ c.Group ≤ 3) : FSpec Tryd.prog 28 [AV.agg c.cs] (AV.str (lineB c)) := by
  have hs' := hs; unfold TFeedItem.size at hs'
  obtain ⟨t, ht⟩ : ∃ t : Nat, c.Time = (t : Int) := ⟨c.Time.toNat, by omega⟩
  obtain ⟨g, hgr⟩ : ∃ g : Nat, c.Group = (g : Int) := ⟨c.Group.toNat, by omega⟩
  have hl1 := decD_len (k := 7) (n := t) (by omega) (by decide)
  have hl2 := decD_len (k := 7) (n := g) (by omega) (by decide)
  have hlb : lineB c = if c.Gone = true then ((((decD t ++ [32]) ++ decD g) ++ [32]) ++ c.Key) ++ [33] else (((((decD t ++ [32]) ++ decD g) ++ [32]) ++ c.Key) ++ [61]) ++ c.Val := by
    unfold lineB; rw [ht, hgr, itoa_nat, itoa_nat]
  rw [hlb]
  have hcs : c.cs = [AV.int t, AV.int g, AV.str c.Key, AV.str c.Val, AV.bool c.Gone] := by unfold TFeedItem.cs; rw [ht, hgr]
  rw [hcs]
  refine spec_of_awp Tryd.func28 rfl Tryd.ntmps28 rfl ?_
  refine awp_seq ?_
  refine awp_region ?_
  refine sq_box rfl rfl rfl rfl (ev_tmp rfl) ?_
  intro b1
  refine sq_plain rfl rfl rfl (w_assign rfl (ev_cs' (l := []) rfl)) ?_
  refine sq_nil ?_
  refine awp_seq ?_
  refine awp_region_any (by kernel_rfl) (by kernel_rfl) rfl ?_
  refine ch_plain rfl rfl (w_fldBn 0 rfl Tryd.underlying27 rfl Tryd.sizeOf3 (ev_tmp rfl) rfl) ?_
  refine ch_plain rfl rfl (w_loadB1 0 rfl (ev_tmp rfl) rfl Tryd.isAgg3 rfl) ?_
  refine ch_plain rfl rfl (w_call rfl Tryd.call57 rfl (l1Num_spec _ (by first | assumption | omega)) (evl_cons (ev_tmp rfl) evl_nil)) ?_
  refine ch_plain rfl rfl (w_cat rfl (ev_tmp rfl) (ev_cs' (l := [32]) rfl) (by first | omega | (simp only [List.length_append, List.length_take, List.length_drop, List.length_cons, List.length_nil]; omega))) ?_
  refine ch_plain rfl rfl (w_fldBn 1 rfl Tryd.underlying27 rfl Tryd.sizeOf3 (ev_tmp rfl) rfl) ?_
  refine ch_plain rfl rfl (w_loadB1 0 rfl (ev_tmp rfl) rfl Tryd.isAgg3 rfl) ?_
  refine ch_plain rfl rfl (w_call rfl Tryd.call57 rfl (l1Num_spec _ (by first | assumption | omega)) (evl_cons (ev_tmp rfl) evl_nil)) ?_
  refine ch_plain rfl rfl (w_cat rfl (ev_tmp rfl) (ev_tmp rfl) (by first | omega | (simp only [List.length_append, List.length_take, List.length_drop, List.length_cons, List.length_nil]; omega))) ?_
  refine ch_plain rfl rfl (w_cat rfl (ev_tmp rfl) (ev_cs' (l := [32]) rfl) (by first | omega | (simp only [List.length_append, List.length_take, List.length_drop, List.length_cons, List.length_nil]; omega))) ?_
  refine ch_plain rfl rfl (w_fldBn 2 rfl Tryd.underlying27 rfl Tryd.sizeOf9 (ev_tmp rfl) rfl) ?_
  refine ch_plain rfl rfl (w_loadB1 0 rfl (ev_tmp rfl) rfl Tryd.isAgg9 rfl) ?_
  refine ch_plain rfl rfl (w_cat rfl (ev_tmp rfl) (ev_tmp rfl) (by first | omega | (simp only [List.length_append, List.length_take, List.length_drop, List.length_cons, List.length_nil]; omega))) ?_
  refine ch_plain rfl rfl (w_assign rfl (ev_tmp rfl)) ?_
  refine ch_nil ?_
  refine awp_seq ?_
  refine awp_seq ?_
  refine awp_region ?_
  refine sq_plain rfl rfl rfl (w_fldBn 4 rfl Tryd.underlying27 rfl Tryd.sizeOf4 (ev_tmp rfl) rfl) ?_
  refine sq_plain rfl rfl rfl (w_loadB1 0 rfl (ev_tmp rfl) rfl Tryd.isAgg4 rfl) ?_
  refine sq_nil ?_
  refine awp_cond (ev_tmp rfl) ?_ ?_
  · intro h17
    refine awp_seq ?_
    refine awp_region ?_
    refine sq_plain rfl rfl rfl (w_move rfl (ev_tmp rfl)) ?_
    refine sq_plain rfl rfl rfl (w_cat rfl (ev_tmp rfl) (ev_cs' (l := [33]) rfl) (by first | omega | (simp only [List.length_append, List.length_take, List.length_drop, List.length_cons, List.length_nil]; omega))) ?_
    refine sq_plain rfl rfl rfl (w_assign rfl (ev_tmp rfl)) ?_
    refine sq_nil ?_
    refine awp_ret ?_
    exact retR rfl (rv_tmp' rfl (by first | rfl | exact congrArg AV.str (by simp_all)))
  · intro h17
    refine awp_skip ?_
    refine awp_seq ?_
    refine awp_region ?_
    refine sq_plain rfl rfl rfl (w_move rfl (ev_tmp rfl)) ?_
    refine sq_plain rfl rfl rfl (w_cat rfl (ev_tmp rfl) (ev_cs' (l := [61]) rfl) (by first | omega | (simp only [List.length_append, List.length_take, List.length_drop, List.length_cons, List.length_nil]; omega))) ?_
    refine sq_plain rfl rfl rfl (w_fldBn 3 rfl Tryd.underlying27 rfl Tryd.sizeOf9 (ev_tmp rfl) rfl) ?_
    refine sq_plain rfl rfl rfl (w_loadB1 0 rfl (ev_tmp rfl) rfl Tryd.isAgg9 rfl) ?_
    refine sq_plain rfl rfl rfl (w_cat rfl (ev_tmp rfl) (ev_tmp rfl) (by first | omega | (simp only [List.length_append, List.length_take, List.length_drop, List.length_cons, List.length_nil]; omega))) ?_
    refine sq_plain rfl rfl rfl (w_assign rfl (ev_tmp rfl)) ?_
    refine sq_nil ?_
    refine awp_ret ?_
    exact retR rfl (rv_tmp' rfl (by first | rfl | exact congrArg AV.str (by simp_all)))
theorem l23Line_spec (c : TFeedItem) (hs : c.size ≤ 1048576) (hg : goodItem c = true) : FSpec Tryd.prog 28 [AV.agg c.cs] (AV.str (lineB c)) :=
  l23LineG_spec c hs (goodItem_nums hg).1 (goodItem_nums hg).2
theorem feedLineR_spec (c : TFeedItem) (hs : c.size ≤ 1048576) : FSpec Tryd.prog 11 [AV.wt tabW (AV.agg c.cs)] (AV.tup [AV.str (feedLineR c).1, AV.bool (feedLineR c).2]) := by
  refine spec_of_awp Tryd.func11 rfl Tryd.ntmps11 rfl ?_
  refine AWP.le (le_tab (t := 0) rfl) ?_
  refine awp_seq ?_
  refine awp_region ?_
  refine sq_box rfl rfl rfl rfl (ev_tmp rfl) ?_
  intro b1
  refine sq_plain rfl rfl rfl (w_assign rfl (ev_cs' (l := []) rfl)) ?_
  refine sq_plain rfl rfl rfl (w_assign rfl ev_cb) ?_
  refine sq_nil ?_
  refine awp_seq ?_
  refine awp_seq ?_
  refine awp_region ?_
  refine sq_plain rfl rfl rfl (w_loadA 0 rfl (ev_tmp rfl) rfl Tryd.isAgg27 Tryd.sizeOf27 rfl) ?_
  refine sq_plain rfl rfl rfl (w_call rfl Tryd.call29 rfl (goodItem_spec c hs) (evl_cons (ev_tmp rfl) evl_nil)) ?_
  refine sq_plain rfl rfl rfl (w_not rfl (ev_tmp rfl)) ?_
  refine sq_nil ?_
  refine awp_cond (ev_tmp rfl) ?_ ?_
  · intro h6
    have he : feedLineR c = ([], false) := if_pos h6
    rw [he]
    refine awp_seq ?_
    refine awp_region ?_
    refine sq_plain rfl rfl rfl (w_assign rfl (ev_cs' (l := []) rfl)) ?_
    refine sq_plain rfl rfl rfl (w_assign rfl ev_cb) ?_
    refine sq_nil ?_
    refine awp_ret ?_
    exact retN rfl (by decide) (rv_cons (rv_tmp' rfl (by rfl)) (rv_cons (rv_tmp' rfl (by rfl)) rv_nil))
  · intro h6
    have he : feedLineR c = (lineB c, true) := if_neg (by rw [h6]; decide)
    rw [he]
    have hg : goodItem c = true := by simpa using h6
    refine awp_skip ?_
    refine awp_seq ?_
    refine awp_region ?_
    refine sq_plain rfl rfl rfl (w_loadA 0 rfl (ev_tmp rfl) rfl Tryd.isAgg27 Tryd.sizeOf27 rfl) ?_
    refine sq_plain rfl rfl rfl (w_callB rfl Tryd.call30 rfl (feedLine_spec c hs hg) (flat_str _) (evlb_cons (evb_wt 1 rfl (by first | exact fun _ h => h | exact fun _ h => h.1) (evb (ev_tmp rfl))) evlb_nil)) ?_
    refine sq_plain rfl rfl rfl (w_assign rfl (ev_tmp rfl)) ?_
    refine sq_plain rfl rfl rfl (w_assign rfl ev_cb) ?_
    refine sq_nil ?_
    refine awp_ret ?_
    exact retN rfl (by decide) (rv_cons (rv_tmp' rfl (by rfl)) (rv_cons (rv_tmp' rfl (by rfl)) rv_nil))
theorem feedLineS_spec (c : TFeedItem) (hs : c.size ≤ 1048576) : FSpec Tryd.prog 9 [AV.agg c.cs] (AV.tup [AV.str (feedLineR c).1, AV.bool (feedLineR c).2]) := by
  refine spec_of_awp Tryd.func9 rfl Tryd.ntmps9 rfl ?_
  refine awp_seq ?_
  refine awp_region ?_
  refine sq_box rfl rfl rfl rfl (ev_tmp rfl) ?_
  intro b1
  refine sq_plain rfl rfl rfl (w_assign rfl (ev_cs' (l := []) rfl)) ?_
  refine sq_plain rfl rfl rfl (w_assign rfl ev_cb) ?_
  refine sq_nil ?_
  refine awp_seq ?_
  refine awp_seq ?_
  refine awp_region ?_
  refine sq_plain rfl rfl rfl (w_loadA 0 rfl (ev_tmp rfl) rfl Tryd.isAgg27 Tryd.sizeOf27 rfl) ?_
  refine sq_plain rfl rfl rfl (w_call rfl Tryd.call27 rfl (l23Good_spec c hs) (evl_cons (ev_tmp rfl) evl_nil)) ?_
  refine sq_plain rfl rfl rfl (w_not rfl (ev_tmp rfl)) ?_
  refine sq_nil ?_
  refine awp_cond (ev_tmp rfl) ?_ ?_
  · intro h6
    have he : feedLineR c = ([], false) := if_pos (by rw [goodItem_eq]; exact h6)
    rw [he]
    refine awp_seq ?_
    refine awp_region ?_
    refine sq_plain rfl rfl rfl (w_assign rfl (ev_cs' (l := []) rfl)) ?_
    refine sq_plain rfl rfl rfl (w_assign rfl ev_cb) ?_
    refine sq_nil ?_
    refine awp_ret ?_
    exact retN rfl (by decide) (rv_cons (rv_tmp' rfl (by rfl)) (rv_cons (rv_tmp' rfl (by rfl)) rv_nil))
  · intro h6
    have hg : goodItem c = true := (by rw [goodItem_eq]; simpa using h6)
    have he : feedLineR c = (lineB c, true) := if_neg (by rw [hg]; decide)
    rw [he]
    refine awp_skip ?_
    refine awp_seq ?_
    refine awp_region ?_
    refine sq_plain rfl rfl rfl (w_loadA 0 rfl (ev_tmp rfl) rfl Tryd.isAgg27 Tryd.sizeOf27 rfl) ?_
    refine sq_plain rfl rfl rfl (w_call rfl Tryd.call28 rfl (l23Line_spec c hs hg) (evl_cons (ev_tmp rfl) evl_nil)) ?_
    refine sq_plain rfl rfl rfl (w_assign rfl (ev_tmp rfl)) ?_
    refine sq_plain rfl rfl rfl (w_assign rfl ev_cb) ?_
    refine sq_nil ?_
    refine awp_ret ?_
    exact retN rfl (by decide) (rv_cons (rv_tmp' rfl (by rfl)) (rv_cons (rv_tmp' rfl (by rfl)) rv_nil))
end Go.Proofs.YtdgoejkijpllpaaDoor

set_option linter.unusedVariables false
set_option linter.unusedSimpArgs false
namespace Go.M
open Go.AV
end Go.M

set_option linter.unusedVariables false
set_option linter.unusedSimpArgs false
set_option maxRecDepth 100000
namespace Go.Proofs.YtdgoejkijpllpaaDoor
open Go Go.AV Go.M
attribute [local irreducible] OpW OpA OpS AWP FSpec ESpec RetOk RvDen Le Ev GuardIs
end Go.Proofs.YtdgoejkijpllpaaDoor

set_option linter.unusedVariables false
set_option linter.unusedSimpArgs false
set_option maxRecDepth 100000
namespace Go.Proofs.YtdgoejkijpllpaaDoor
open Go Go.AV Go.M
attribute [local irreducible] OpW OpA OpS AWP FSpec ESpec RetOk RvDen Le Ev GuardIs
end Go.Proofs.YtdgoejkijpllpaaDoor

set_option linter.unusedVariables false
namespace Go.M
open Go.AV
end Go.M

set_option linter.unusedVariables false
set_option linter.unusedSimpArgs false
set_option maxRecDepth 100000
namespace Go.Proofs.YtdgoejkijpllpaaDoor
open Go Go.AV Go.M
attribute [local irreducible] OpW OpA OpS AWP FSpec ESpec RetOk RvDen Le Ev GuardIs
end Go.Proofs.YtdgoejkijpllpaaDoor

set_option linter.unusedVariables false
set_option linter.unusedSimpArgs false
set_option maxRecDepth 100000
namespace Go.Proofs.YtdgoejkijpllpaaDoor
open Go Go.AV Go.M
attribute [local irreducible] OpW OpA OpS AWP FSpec ESpec GSpec OpE RetOk RetOkG RvDen Le Ev GuardIs
end Go.Proofs.YtdgoejkijpllpaaDoor

set_option linter.unusedVariables false
set_option linter.unusedSimpArgs false
set_option maxRecDepth 100000
namespace Go.Proofs.YtdgoejkijpllpaaDoor
open Go Go.AV Go.M
attribute [local irreducible] OpW OpA OpS AWP FSpec ESpec GSpec OpE RetOk RetOkG RvDen Le Ev GuardIs SrcIs
end Go.Proofs.YtdgoejkijpllpaaDoor

namespace Go.Proofs
open Go.Shelf
set_option linter.unusedVariables false
end Go.Proofs

set_option linter.unusedVariables false
set_option linter.unusedSimpArgs false
set_option maxRecDepth 100000
namespace Go.AV
end Go.AV
namespace Go.Proofs.YtdgoejkijpllpaaDoor
open Go Go.AV Go.M
attribute [local irreducible] OpW OpA OpS AWP FSpec ESpec GSpec OpE RetOk RetOkG RvDen Le Ev GuardIs SrcIs Int.tmod Int.tdiv IntKind.wrap
end Go.Proofs.YtdgoejkijpllpaaDoor

set_option linter.unusedVariables false
set_option linter.unusedSimpArgs false
namespace Go.M
open Go.AV
def addP (p : Str) : List Str → List Str
  | [] => [p]
  | w :: ws => (p ++ w) :: ws
def splitC (c : UInt8) : Str → List Str
  | [] => [[]]
  | b :: s => if b = c then [] :: splitC c s else addP [b] (splitC c s)
theorem splitC_cons (c b : UInt8) (s : Str) : splitC c (b :: s) = if b = c then [] :: splitC c s else addP [b] (splitC c s) := rfl
theorem splitC_ne (c : UInt8) (s : Str) : splitC c s ≠ [] := by
  cases s with
  | nil => simp [splitC]
  | cons b s =>
    unfold splitC
    split
    · simp
    · cases splitC c s <;> simp [addP]
theorem addP_nil {ws : List Str} (h : ws ≠ []) : addP [] ws = ws := by
  cases ws with
  | nil => exact absurd rfl h
  | cons w ws => rfl
theorem addP_add (p q : Str) (ws : List Str) : addP p (addP q ws) = addP (p ++ q) ws := by
  cases ws <;> simp [addP]
theorem splitC_no {c : UInt8} : ∀ {s : Str}, c ∉ s → splitC c s = [s]
  | [], _ => rfl
  | b :: s, h => by
    unfold splitC
    rw [if_neg (fun e => h (by rw [e]; exact List.mem_cons_self)), splitC_no fun hm => h (List.mem_cons_of_mem _ hm)]; rfl
theorem splitC_app {c : UInt8} : ∀ {a : Str} (s : Str), c ∉ a → splitC c (a ++ c :: s) = a :: splitC c s
  | [], s, _ => by show splitC c (c :: s) = _; rw [splitC_cons, if_pos rfl]
  | b :: a, s, h => by
    show splitC c (b :: (a ++ c :: s)) = _
    rw [splitC_cons, if_neg (fun e => h (by rw [e]; exact List.mem_cons_self)), splitC_app s fun hm => h (List.mem_cons_of_mem _ hm)]; rfl
theorem idx_cons (b c : UInt8) (l : Str) : Lib.index (b :: l) [c] = if (c == b) = true then 0 else if (Lib.index l [c] == -1) = true then -1 else Lib.index l [c] + 1 := by
  conv => lhs; unfold Lib.index
  simp [List.isPrefixOf]
theorem split_rec (c : UInt8) : ∀ (s : Str) (k : Nat), k = s.count c → Lib.splitK [c] 0 k s = splitC c s
  | [], k, h => by subst h; rfl
  | b :: l, k, h => by
    unfold splitC
    by_cases hb : b = c
    · subst hb
      rw [List.count_cons_self] at h
      subst h
      rw [if_pos rfl]
      unfold Lib.splitK
      rw [idx_cons]
      simp
      exact split_rec b l _ rfl
    · rw [List.count_cons_of_ne hb] at h
      rw [if_neg hb]
      have ih := split_rec c l k h
      cases k with
      | zero =>
        rw [← ih]; rfl
      | succ k =>
        rw [← ih]
        unfold Lib.splitK
        have hcb : ¬ (c == b) = true := by simpa using fun e : c = b => hb e.symm
        rw [idx_cons, if_neg hcb]
        have hge := Lib.index_ge l [c]
        by_cases hi : Lib.index l [c] = -1
        · simp [hi, addP]
        · have h1 : (Lib.index l [c] == -1) = false := by simpa using hi
          have h2 : (Lib.index l [c] + 1 == -1) = false := by simp; omega
          have h3 : (Lib.index l [c] + 1).toNat = (Lib.index l [c]).toNat + 1 := by omega
          simp only [h1, h2, Bool.false_eq_true, if_false, h3, addP, Nat.add_zero, List.length_cons, List.length_nil, List.take_succ_cons, List.cons_append, List.nil_append]
          simp [h3]
def SpOk (c : UInt8) (s : Str) (acc : List Str) (fr i : Nat) : Prop := splitC c s = acc ++ addP ((s.drop fr).take (i - fr)) (splitC c (s.drop i)) ∧ fr ≤ i ∧ i ≤ s.length ∧ acc.length ≤ i
theorem spOk_start (c : UInt8) (s : Str) : SpOk c s [] 0 0 := ⟨by simp [addP_nil (splitC_ne c s)], Nat.le_refl _, Nat.zero_le _, Nat.le_refl _⟩
theorem spOk_hit {c : UInt8} {s : Str} {acc : List Str} {fr i : Nat} (h : SpOk c s acc fr i) (hx : s[i]? = some c) : SpOk c s (acc ++ [(s.take i).drop fr]) (i + 1) (i + 1) := by
  obtain ⟨h1, h2, h3, h4⟩ := h
  have hlt := (List.getElem?_eq_some_iff.1 hx).1
  have hd : s.drop i = c :: s.drop (i + 1) := by rw [List.drop_eq_getElem_cons hlt]; congr 1; exact (List.getElem?_eq_some_iff.1 hx).2
  refine ⟨?_, Nat.le_refl _, hlt, by simp; omega⟩
  rw [h1, hd]
  have e : splitC c (c :: s.drop (i + 1)) = [] :: splitC c (s.drop (i + 1)) := by rw [splitC_cons, if_pos rfl]
  rw [e, Nat.sub_self, List.take_zero, addP_nil (splitC_ne c _), List.append_assoc]
  show acc ++ (((s.drop fr).take (i - fr) ++ []) :: splitC c (s.drop (i + 1))) = _
  rw [List.append_nil, ← List.drop_take]; rfl
theorem spOk_miss {c b : UInt8} {s : Str} {acc : List Str} {fr i : Nat} (h : SpOk c s acc fr i) (hx : s[i]? = some b) (hb : b ≠ c) : SpOk c s acc fr (i + 1) := by
  obtain ⟨h1, h2, h3, h4⟩ := h
  have hlt := (List.getElem?_eq_some_iff.1 hx).1
  have hd : s.drop i = b :: s.drop (i + 1) := by rw [List.drop_eq_getElem_cons hlt]; congr 1; exact (List.getElem?_eq_some_iff.1 hx).2
  refine ⟨?_, by omega, hlt, by omega⟩
  rw [h1, hd]
  have e : splitC c (b :: s.drop (i + 1)) = addP [b] (splitC c (s.drop (i + 1))) := by rw [splitC_cons, if_neg hb]
  rw [e, addP_add]
  congr 2
  rw [show i + 1 - fr = (i - fr) + 1 by omega, List.take_add_one, List.getElem?_drop, show fr + (i - fr) = i by omega, hx]; rfl
theorem spOk_end {c : UInt8} {s : Str} {acc : List Str} {fr i : Nat} (h : SpOk c s acc fr i) (hi : s.length ≤ i) : splitC c s = acc ++ [s.drop fr] := by
  obtain ⟨h1, h2, h3, h4⟩ := h
  rw [h1, List.drop_of_length_le hi, List.take_of_length_le (by rw [List.length_drop]; omega)]
  simp [splitC, addP]
def isDig (b : UInt8) : Bool := decide (48 ≤ b.toNat) && decide (b.toNat ≤ 57)
theorem decD_dig (n : Nat) : ∀ b ∈ decD n, 48 ≤ b.toNat ∧ b.toNat ≤ 57 := by
  induction n using Nat.strongRecOn with
  | ind n ih =>
    intro b hb
    by_cases h : n < 10
    · rw [decD_small h] at hb
      rw [List.mem_singleton.1 hb]
      have : (UInt8.ofNat (48 + n)).toNat = (48 + n) % 256 := by simp
      omega
    · rw [decD_big h] at hb
      rcases List.mem_append.1 hb with hb | hb
      · exact ih (n / 10) (by omega) b hb
      · rw [List.mem_singleton.1 hb]
        have : (UInt8.ofNat (48 + n % 10)).toNat = (48 + n % 10) % 256 := by simp
        omega
theorem decD_head {n : Nat} (hn : 0 < n) : ∃ d r, decD n = d :: r ∧ d.toNat ≠ 48 := by
  induction n using Nat.strongRecOn with
  | ind n ih =>
    by_cases h : n < 10
    · refine ⟨_, _, decD_small h, ?_⟩
      have : (UInt8.ofNat (48 + n)).toNat = (48 + n) % 256 := by simp
      omega
    · obtain ⟨d, r, e, hd⟩ := ih (n / 10) (by omega) (by omega)
      exact ⟨d, r ++ [UInt8.ofNat (48 + n % 10)], by rw [decD_big h, e]; rfl, hd⟩
theorem decD_ne (n : Nat) : decD n ≠ [] := by
  by_cases h : n < 10
  · rw [decD_small h]; simp
  · rw [decD_big h]; simp
theorem pu_snoc {d : UInt8} (hd : 48 ≤ d.toNat ∧ d.toNat ≤ 57) : ∀ (l : Str) (acc u : Nat), Lib.parseUint10 acc l = .ok u → u < 100000000000000000 → Lib.parseUint10 acc (l ++ [d]) = .ok (u * 10 + (d.toNat - 48))
  | [], acc, u, h, hu => by
    simp only [Lib.parseUint10] at h
    injection h with h
    subst h
    simp only [List.nil_append, Lib.parseUint10]
    rw [if_pos hd, if_neg (by omega), if_neg (by omega)]
  | c :: r, acc, u, h, hu => by
    simp only [Lib.parseUint10] at h
    show Lib.parseUint10 acc (c :: (r ++ [d])) = _
    simp only [Lib.parseUint10]
    split at h
    · rename_i h1
      rw [if_pos h1]
      split at h
      · cases h
      · rename_i h2
        rw [if_neg h2]
        split at h
        · cases h
        · rename_i h3
          rw [if_neg h3]
          exact pu_snoc hd r _ u h hu
    · cases h
theorem pu_dec (n : Nat) : n ≤ 1000000000000 → Lib.parseUint10 0 (decD n) = .ok n := by
  induction n using Nat.strongRecOn with
  | ind n ih =>
    intro hn
    by_cases h : n < 10
    · rw [decD_small h]
      have : (UInt8.ofNat (48 + n)).toNat = 48 + n := by simp; omega
      simp only [Lib.parseUint10, this]
      rw [if_pos (by omega), if_neg (by omega), if_neg (by omega)]
      congr 1; omega
    · rw [decD_big h]
      have h8 : (UInt8.ofNat (48 + n % 10)).toNat = 48 + n % 10 := by simp; omega
      rw [pu_snoc (by omega) _ 0 (n / 10) (ih (n / 10) (by omega) (by omega)) (by omega), h8]
      congr 1; omega
theorem atoi_dec {n : Nat} (h : n ≤ 1000000000000) : Lib.atoiAll (decD n) = .ok (n : Int) := by
  have hp := pu_dec n h
  have hdg := decD_dig n
  cases hl : decD n with
  | nil => exact absurd hl (decD_ne n)
  | cons c r =>
    rw [hl] at hp hdg
    have hc := hdg c List.mem_cons_self
    unfold Lib.atoiAll Lib.parseMag
    dsimp only
    rw [if_neg (show ¬ (c.toNat = 43 ∨ c.toNat = 45) by omega), if_neg (by simp), hp]
    dsimp only
    rw [if_neg (by omega), if_neg (by omega), if_neg (by omega)]
def atoiV (s : Str) : Int := match Lib.atoiAll s with | .ok v => v | .range => Lib.atoiSat s | _ => 0
def atoiBad (s : Str) : Bool := match Lib.atoiAll s with | .ok _ => false | _ => true
def readI (s : Str) (lo hi : Int) : Int × Bool := if ((atoiBad s || !within (atoiV s) lo hi) || (itoaD (atoiV s) != s)) = true then (0, false) else (atoiV s, true)
theorem readI_dec {n : Nat} {lo hi : Int} (h : n ≤ 1000000000000) (hw : within n lo hi = true) : readI (decD n) lo hi = ((n : Int), true) := by
  have e := atoi_dec h
  have e1 : atoiV (decD n) = n := by unfold atoiV; rw [e]
  have e2 : atoiBad (decD n) = false := by unfold atoiBad; rw [e]
  unfold readI
  rw [e1, e2, hw, itoa_nat, if_neg (by simp)]
def rdFrom (n : Nat) : Str → Int
  | [] => n
  | b :: s => if isDig b = true then rdFrom (10 * n + (b.toNat - 48)) s else -1
def l1BadB (s : Str) : Bool := !within s.length 1 6 || ((s.head?.map fun b => b == 48).getD false && decide ((1 : Int) < (s.length : Int)))
def l1R (s : Str) : Int := if l1BadB s = true then -1 else rdFrom 0 s
theorem rd_snoc {d : UInt8} (hd : 48 ≤ d.toNat ∧ d.toNat ≤ 57) : ∀ (s : Str) (m v : Nat), rdFrom m s = (v : Int) → rdFrom m (s ++ [d]) = ((10 * v + (d.toNat - 48) : Nat) : Int)
  | [], m, v, h => by
    simp only [rdFrom] at h
    have : m = v := by omega
    subst this
    simp only [List.nil_append, rdFrom]
    rw [if_pos (by unfold isDig; simp; omega)]
  | b :: s, m, v, h => by
    simp only [rdFrom] at h
    show rdFrom m (b :: (s ++ [d])) = _
    simp only [rdFrom]
    split at h
    · rename_i h1
      rw [if_pos h1]
      exact rd_snoc hd s _ v h
    · exfalso; omega
theorem rd_dec (n : Nat) : rdFrom 0 (decD n) = (n : Int) := by
  induction n using Nat.strongRecOn with
  | ind n ih =>
    by_cases h : n < 10
    · rw [decD_small h]
      have h8 : (UInt8.ofNat (48 + n)).toNat = 48 + n := by simp; omega
      simp only [rdFrom, h8]
      rw [if_pos (by unfold isDig; rw [h8]; simp; omega)]
      congr 1; omega
    · rw [decD_big h]
      have h8 : (UInt8.ofNat (48 + n % 10)).toNat = 48 + n % 10 := by simp; omega
      rw [rd_snoc (by omega) _ 0 (n / 10) (ih (n / 10) (by omega)), h8]
      congr 1; omega
theorem l1R_dec {n : Nat} (h : n ≤ 999999) : l1R (decD n) = n := by
  have hl := decD_len (k := 6) (n := n) (by omega) (by decide)
  have hne := decD_ne n
  have hpos : 1 ≤ (decD n).length := by
    cases hd : decD n with
    | nil => exact absurd hd hne
    | cons b r => simp
  unfold l1R
  rw [if_neg, rd_dec]
  unfold l1BadB within
  simp only [Bool.or_eq_true, Bool.not_eq_true', Bool.and_eq_true, not_or, not_and]
  refine ⟨by simp; omega, fun hh hlt => ?_⟩
  by_cases hz : n = 0
  · subst hz
    have : (decD 0).length = 1 := by rw [decD_small (by decide)]; rfl
    simp at hlt; omega
  · obtain ⟨d, r, e, hd⟩ := decD_head (n := n) (by omega)
    rw [e] at hh
    simp at hh
    rw [hh] at hd
    exact hd rfl
end Go.M

set_option linter.unusedVariables false
set_option linter.unusedSimpArgs false
namespace Go.M
open Go.AV
theorem l3_no {s o : Str} (h : l3Bytes s o = true) {b : UInt8} (hn : (lowDig b || o.any fun d => ((b.toNat : Int) == (d.toNat : Int))) = false) : b ∉ s := fun hb => by
  unfold l3Bytes at h
  have := List.all_eq_true.1 h b hb
  rw [hn] at this; cases this
theorem splitC_len {c : UInt8} : ∀ {s w : Str}, w ∈ splitC c s → w.length ≤ s.length
  | [], w, h => by simp [splitC] at h; subst h; exact Nat.le_refl _
  | b :: s, w, h => by
    rw [splitC_cons] at h
    split at h
    · rcases List.mem_cons.1 h with rfl | h
      · exact Nat.zero_le _
      · have := splitC_len h; simp only [List.length_cons]; omega
    · cases hs : splitC c s with
      | nil => exact absurd hs (splitC_ne c s)
      | cons x xs =>
        rw [hs] at h
        rcases List.mem_cons.1 h with rfl | h
        · have := splitC_len (c := c) (s := s) (w := x) (by rw [hs]; exact List.mem_cons_self)
          simp only [List.cons_append, List.nil_append, List.length_cons]; omega
        · have := splitC_len (c := c) (s := s) (w := w) (by rw [hs]; exact List.mem_cons_of_mem _ h)
          simp only [List.length_cons]; omega
theorem idx_no {c : UInt8} : ∀ {s : Str}, c ∉ s → Lib.index s [c] = -1
  | [], _ => rfl
  | b :: s, h => by
    rw [idx_cons, if_neg (by simpa using fun e : c = b => h (by rw [e]; exact List.mem_cons_self)), idx_no fun hm => h (List.mem_cons_of_mem _ hm)]; rfl
theorem idx_at {c : UInt8} : ∀ {a : Str} (s : Str), c ∉ a → Lib.index (a ++ c :: s) [c] = (a.length : Int)
  | [], s, _ => by show Lib.index (c :: s) [c] = _; rw [idx_cons, if_pos (by simp)]; rfl
  | b :: a, s, h => by
    show Lib.index (b :: (a ++ c :: s)) [c] = _
    rw [idx_cons, if_neg (by simpa using fun e : c = b => h (by rw [e]; exact List.mem_cons_self)), idx_at s fun hm => h (List.mem_cons_of_mem _ hm), if_neg (by simp)]
    simp
theorem cut_no {c : UInt8} {s : Str} (h : c ∉ s) : Lib.cut s [c] = (s, [], false) := by unfold Lib.cut; rw [idx_no h]; rfl
theorem cut_at {c : UInt8} {a : Str} (s : Str) (h : c ∉ a) : Lib.cut (a ++ c :: s) [c] = (a, s, true) := by
  unfold Lib.cut
  rw [idx_at s h, if_pos (by omega)]
  simp
theorem cutL_len (s : Str) (c : UInt8) : (Lib.cut s [c]).1.length + (Lib.cut s [c]).2.1.length ≤ s.length := by
  unfold Lib.cut
  split
  · dsimp only; rw [List.length_take, List.length_drop]; simp; omega
  · simp
theorem trim_len (s p : Str) : (Lib.trimSuffix s p).length ≤ s.length := by
  unfold Lib.trimSuffix; split
  · rw [List.length_take]; omega
  · exact Nat.le_refl _
theorem trim_at (s : Str) (c : UInt8) : Lib.trimSuffix (s ++ [c]) [c] = s := by
  unfold Lib.trimSuffix Lib.hasSuffix
  rw [if_pos (by rw [List.isSuffixOf_iff_suffix]; exact List.suffix_append _ _)]
  simp
def emptyF : TFeedItem := ⟨0, 0, [], [], false⟩
def itemOf (a b k : Str) : TFeedItem := if (!(Lib.cut k [61]).2.2) = true then ⟨(readI a 1 100000).1, (readI b 0 3).1, Lib.trimSuffix (Lib.cut k [61]).1 [33], (Lib.cut k [61]).2.1, true⟩ else ⟨(readI a 1 100000).1, (readI b 0 3).1, (Lib.cut k [61]).1, (Lib.cut k [61]).2.1, false⟩
def bad3 (s a b k : Str) : Bool := ((!(readI a 1 100000).2 || !(readI b 0 3).2) || !goodItem (itemOf a b k)) || (lineB (itemOf a b k) != s)
def parse3 (s a b k : Str) : TFeedItem × Bool := if bad3 s a b k = true then (emptyF, false) else (itemOf a b k, true)
def parseF (s : Str) : TFeedItem × Bool := match splitC 32 s with
  | [a, b, k] => parse3 s a b k
  | _ => (emptyF, false)
def itemS (a b k : Str) : TFeedItem := match splitC 61 k with
  | [x, y] => ⟨l1R a, l1R b, x, y, false⟩
  | _ => ⟨l1R a, l1R b, k.take (k.length - 1), [], true⟩
def parse3S (s a b k : Str) : TFeedItem × Bool := if (!l23Good (itemS a b k) || (lineB (itemS a b k) != s)) = true then (emptyF, false) else (itemS a b k, true)
def parseFS (s : Str) : TFeedItem × Bool := match splitC 32 s with
  | [a, b, k] => if k.length < 2 then (emptyF, false) else parse3S s a b k
  | _ => (emptyF, false)
theorem itemOf_size {a b k : Str} : (itemOf a b k).size ≤ k.length := by
  have h1 := cutL_len k 61
  have h2 := trim_len (Lib.cut k [61]).1 [33]
  unfold itemOf TFeedItem.size
  split
  · dsimp only; omega
  · dsimp only; omega
theorem split_three {c : UInt8} {a b k : Str} (ha : c ∉ a) (hb : c ∉ b) (hk : c ∉ k) : splitC c (a ++ c :: (b ++ c :: k)) = [a, b, k] := by
  rw [splitC_app _ ha, splitC_app _ hb, splitC_no hk]
theorem dec_no {n : Nat} {c : UInt8} (h : c.toNat < 48 ∨ 57 < c.toNat) : c ∉ decD n := fun hm => by
  have := decD_dig n c hm; omega
structure GoodC (c : TFeedItem) : Prop where
  time : ∃ t : Nat, c.Time = (t : Int) ∧ 1 ≤ t ∧ t ≤ 100000
  group : ∃ g : Nat, c.Group = (g : Int) ∧ g ≤ 3
  key : 1 ≤ c.Key.length ∧ (32 : UInt8) ∉ c.Key ∧ (61 : UInt8) ∉ c.Key
  val : (32 : UInt8) ∉ c.Val ∧ (61 : UInt8) ∉ c.Val
  gone : c.Gone = true → c.Val = []
theorem goodC {c : TFeedItem} (h : goodItem c = true) : GoodC c := by
  rw [goodItem_eq] at h
  unfold l23Good l3Write l3Key l3Val at h
  simp only [Bool.and_eq_true] at h
  obtain ⟨⟨ht, hg⟩, ⟨⟨hk1, hk2⟩, ⟨_, hv⟩⟩, hz⟩ := h
  have ht2 : 1 ≤ c.Time ∧ c.Time ≤ 100000 := by unfold within at ht; simpa using ht
  have hg2 : 0 ≤ c.Group ∧ c.Group ≤ 3 := by unfold within at hg; simpa using hg
  have hk3 : 1 ≤ (c.Key.length : Int) ∧ (c.Key.length : Int) ≤ 12 := by unfold within at hk1; simpa using hk1
  refine ⟨⟨c.Time.toNat, by omega, by omega, by omega⟩, ⟨c.Group.toNat, by omega, by omega⟩, ⟨by omega, l3_no hk2 (by decide), l3_no hk2 (by decide)⟩, ⟨l3_no hv (by decide), l3_no hv (by decide)⟩, fun e => ?_⟩
  rw [e] at hz
  simpa using hz
theorem not_app {c : UInt8} {a b : Str} (ha : c ∉ a) (hb : c ∉ b) : c ∉ a ++ b := fun h => (List.mem_append.1 h).elim ha hb
def tailB (c : TFeedItem) : Str := if c.Gone = true then c.Key ++ [33] else c.Key ++ 61 :: c.Val
theorem line_split {c : TFeedItem} (h : goodItem c = true) : splitC 32 (lineB c) = [itoaD c.Time, itoaD c.Group, tailB c] := by
  obtain ⟨⟨t, et, ht1, ht2⟩, ⟨g, eg, hg⟩, hk, hv, hz⟩ := goodC h
  have e : lineB c = decD t ++ 32 :: (decD g ++ 32 :: tailB c) := by
    unfold lineB tailB
    rw [et, eg, itoa_nat, itoa_nat]
    split <;> simp
  rw [e, et, eg, itoa_nat, itoa_nat, split_three (dec_no (by decide)) (dec_no (by decide))]
  unfold tailB
  split
  · exact not_app hk.2.1 (by decide)
  · refine not_app hk.2.1 fun hm => ?_
    rcases List.mem_cons.1 hm with hm | hm
    · exact absurd hm (by decide)
    · exact hv.1 hm
theorem item_back {c : TFeedItem} (h : goodItem c = true) : itemOf (itoaD c.Time) (itoaD c.Group) (tailB c) = c ∧ (readI (itoaD c.Time) 1 100000).2 = true ∧ (readI (itoaD c.Group) 0 3).2 = true ∧ itemS (itoaD c.Time) (itoaD c.Group) (tailB c) = c ∧ ¬ (tailB c).length < 2 := by
  obtain ⟨⟨t, et, ht1, ht2⟩, ⟨g, eg, hg⟩, hk, hv, hz⟩ := goodC h
  have r1 : readI (decD t) 1 100000 = ((t : Int), true) := readI_dec (by omega) (by unfold within; simp; omega)
  have r2 : readI (decD g) 0 3 = ((g : Int), true) := readI_dec (by omega) (by unfold within; simp; omega)
  have s1 : l1R (decD t) = (t : Int) := l1R_dec (by omega)
  have s2 : l1R (decD g) = (g : Int) := l1R_dec (by omega)
  rw [et, eg, itoa_nat, itoa_nat, r1, r2]
  obtain ⟨T, G, K, V, Z⟩ := c
  dsimp only at et eg hk hv hz
  subst et; subst eg
  cases Z with
  | true =>
    have hV := hz rfl
    subst hV
    have hno : (61 : UInt8) ∉ K ++ [33] := not_app hk.2.2 (by decide)
    have ht : tailB ⟨(t : Int), (g : Int), K, [], true⟩ = K ++ [33] := rfl
    rw [ht]
    refine ⟨?_, rfl, rfl, ?_, by simp; omega⟩
    · unfold itemOf
      rw [cut_no hno]
      dsimp only
      rw [r1, r2, trim_at]; rfl
    · unfold itemS
      rw [splitC_no hno]
      dsimp only
      rw [s1, s2]
      simp
  | false =>
    have ht : tailB ⟨(t : Int), (g : Int), K, V, false⟩ = K ++ 61 :: V := rfl
    rw [ht]
    refine ⟨?_, rfl, rfl, ?_, by simp; omega⟩
    · unfold itemOf
      rw [cut_at V hk.2.2]
      dsimp only
      rw [r1, r2]; rfl
    · unfold itemS
      rw [splitC_app V hk.2.2, splitC_no hv.2]
      dsimp only
      rw [s1, s2]
theorem parseF_line {c : TFeedItem} (h : goodItem c = true) : parseF (lineB c) = (c, true) := by
  obtain ⟨h1, h2, h3, h4, h5⟩ := item_back h
  unfold parseF
  rw [line_split h]
  dsimp only
  unfold parse3 bad3
  rw [h1, h2, h3, h, if_neg (by simp)]
theorem parseFS_line {c : TFeedItem} (h : goodItem c = true) : parseFS (lineB c) = (c, true) := by
  obtain ⟨h1, h2, h3, h4, h5⟩ := item_back h
  unfold parseFS
  rw [line_split h]
  dsimp only
  rw [if_neg h5]
  unfold parse3S
  rw [h4, ← goodItem_eq, h, if_neg (by simp)]
theorem parseF_cases (s : Str) : parseF s = (emptyF, false) ∨ ((parseF s).2 = true ∧ goodItem (parseF s).1 = true ∧ lineB (parseF s).1 = s) := by
  unfold parseF
  split
  · unfold parse3
    split
    · exact .inl rfl
    · rename_i h
      refine .inr ⟨rfl, ?_⟩
      unfold bad3 at h
      simp only [Bool.or_eq_true, Bool.not_eq_true', bne_iff_ne, not_or, Bool.not_eq_false, Decidable.not_not] at h
      exact ⟨by simpa using h.1.2, by simpa using h.2⟩
  · exact .inl rfl
theorem parseFS_cases (s : Str) : parseFS s = (emptyF, false) ∨ ((parseFS s).2 = true ∧ goodItem (parseFS s).1 = true ∧ lineB (parseFS s).1 = s) := by
  unfold parseFS
  split
  · split
    · exact .inl rfl
    · unfold parse3S
      split
      · exact .inl rfl
      · rename_i h
        refine .inr ⟨rfl, ?_⟩
        simp only [Bool.or_eq_true, Bool.not_eq_true', bne_iff_ne, not_or, Bool.not_eq_false, Decidable.not_not] at h
        rw [goodItem_eq]
        exact ⟨by simpa using h.1, by simpa using h.2⟩
  · exact .inl rfl
theorem parse_eq (s : Str) : parseF s = parseFS s := by
  rcases parseF_cases s with h | ⟨_, h2, h3⟩
  · rcases parseFS_cases s with k | ⟨_, k2, k3⟩
    · rw [h, k]
    · have := parseF_line k2
      rw [k3] at this
      have h9 := parseFS_line k2
      rw [k3] at h9
      rw [this, h9]
  · have h8 := parseF_line h2
    have h9 := parseFS_line h2
    rw [h3] at h8 h9
    rw [h8, h9]
end Go.M

set_option linter.unusedVariables false
set_option linter.unusedSimpArgs false
namespace Go.AV
open Go.RowKit (Below)
def AV.errB (b : Bool) : AV := ⟨fun _ v => (b = false → v = .nilIface) ∧ (b = true → ∃ t p, v = .iface t p), fun _ h => h⟩
section
variable {P : Program} {G : Nat → Prop} {n : Nat} {own : List Own} {o : Oper} {E : EnvF}
theorem w_errneq {b : Bool} {t : TypeId} {p : Operand} {ty : TypeId} (ho : o.op = .binOp .neq t p (.const .nilIface) ty) (ht : P.underlying t = some (.interface (P.methodsAt t))) (hp : Ev E p (AV.errB b)) : OpW P G n own o E (AV.bool b) := opW_val fun R a w _ he => by
  have h1 : (b = false → a.eval p = .nilIface) ∧ (b = true → ∃ t p', a.eval p = .iface t p') := ev_use hp (by simp [ho, Op.operands]) he
  have h3 : a.eval (.const .nilIface) = .nilIface := rfl
  cases b with
  | false =>
    have h2 := h1.1 rfl
    exact ⟨.bool false, by simp only [execOp, ho, h2, h3, eqGuard_nil_constR, Sem.run_bind, Sem.run_pure, Result.andThen_ok, run_neq_nil_nil w t ht], rfl⟩
  | true =>
    obtain ⟨u, x, h2⟩ := h1.2 rfl
    exact ⟨.bool true, by simp only [execOp, ho, h2, h3, eqGuard_at_iface, Sem.run_bind, Sem.run_pure, Result.andThen_ok, run_neq_held_nil w t u x ht], rfl⟩
theorem w_callT {f : FuncId} {args : Array Operand} {tys : Array TypeId} {ps : List Operand} {x : AV} {xs : List AV} {y : AV} {T T' : World → Prop} (i : Nat) (hi : own[i]? = some (.tab T')) (ho : o.op = .call { callee := .value (.func f), args := args, argTypes := tys }) (hc : ∀ (vs : Array Value) (w : World), (callFunc f vs).run P w = .ok (.enter f vs) w)
    (hps : args.toList = ps) (hs : FSpec P f (AV.wt T x :: xs) y) (he : EvL E ps (x :: xs)) (hT : ∀ w, T' w → T w) : OpW P G n own o E y := fun w0 R0 R a w hcore _ hen => by
  have hd := evl_use hen he fun p hp => by simp [ho, Op.operands, Call.operands]; right; rw [← hps] at hp; exact Array.mem_toList_iff.1 hp
  have htab : ∀ w' : World, RLe R w' → T w' := fun w' hw' => hT w' ((hcore.owned _ (List.mem_of_getElem? hi)) w' hw')
  have hd2 : DenV R (ps.map a.eval) (AV.wt T x :: xs) := ⟨hd.1, fun j v z hv hz => by
    cases j with
    | zero =>
      simp at hz; subst hz
      exact ⟨hd.2 0 v x hv rfl, htab⟩
    | succ j => exact hd.2 (j + 1) v z hv hz⟩
  have hrun : (execOp a.eval o).run P w = .ok (.enter f (ps.map a.eval).toArray) w := by
    have hargs : args.map a.eval = (ps.map a.eval).toArray := by rw [← hps]; cases args; simp
    simp only [execOp, ho, resolve, hargs, show a.eval (.func f) = .func (.func f) #[] #[] from rfl]
    simp [Deferred.ofValue, invoke, hc]
  unfold Oper.wp
  rw [hrun, Oper.upon_enter]
  refine (hs R w _ hcore.rle hd2).mono fun e w' ⟨v, R', e1, e2, e3, e4, e5⟩ => ?_
  subst e1
  exact ⟨v, R', rfl, hcore.step e5 e3 e4, rsub_of hcore.rle e4, e2⟩
theorem fspec_wtL {f : FuncId} {x y : AV} {xs : List AV} {T : World → Prop} (h : ∀ (R : RHeap) (w : World) (v : Value) (vs : List Value), RLe R w → x.den R v → DenV R (v :: vs) (x :: xs) → T w → Calls P f (v :: vs).toArray w fun e w' => ∃ u, e = .returned u ∧ y.den R u ∧ Below w.heap.size w w') : FSpec P f (AV.wt T x :: xs) y := fun R w vs hr hd => by
  match vs, hd.1 with
  | v :: vs, _ =>
    have h1 := hd.2 0 v _ rfl rfl
    have hd2 : DenV R (v :: vs) (x :: xs) := ⟨hd.1, fun j u z hu hz => by
      cases j with
      | zero => simp at hz hu; subst hz; subst hu; exact h1.1
      | succ j => exact hd.2 (j + 1) u z hu hz⟩
    refine (h R w v vs hr h1.1 hd2 (h1.2 w hr)).mono fun e w' ⟨u, h2, h3, h4⟩ => ⟨u, R, h2, h3, fun b o hb => ?_, fun _ _ => rfl, h4⟩
    have hb2 := hr b o hb
    rw [h4.block b (Array.getElem?_eq_some_iff.1 hb2).1]; exact hb2
theorem fspec_lib2 {f : FuncId} {x y z : AV} (h : ∀ (R : RHeap) (w : World) (u v : Value), x.den R u → z.den R v → Calls P f #[u, v] w fun e w' => ∃ u, e = .returned u ∧ y.den R u ∧ Below w.heap.size w w') : FSpec P f [x, z] y := fun R w vs hr hd => by
  match vs, hd.1 with
  | [u, v], _ =>
    refine (h R w u v (hd.2 0 u x rfl rfl) (hd.2 1 v z rfl rfl)).mono fun e w' ⟨u, h2, h3, h4⟩ => ⟨u, R, h2, h3, fun b o hb => ?_, fun _ _ => rfl, h4⟩
    have hb2 := hr b o hb
    rw [h4.block b (Array.getElem?_eq_some_iff.1 hb2).1]; exact hb2
theorem below_same (w : World) : Below w.heap.size w w := ⟨rfl, rfl, rfl, Nat.le_refl _, fun _ _ => rfl⟩
theorem below_drew (w : World) (k : Nat) : Below w.heap.size w (w.drewN k) := ⟨rfl, rfl, rfl, Nat.le_refl _, fun _ _ => rfl⟩
theorem below_bytes (w : World) (e : TypeId) (t : ByteArray) : Below w.heap.size w (Lib.bytesWorld w e t) :=
  ⟨rfl, rfl, rfl, by rw [Lib.bytesWorld_size]; exact Nat.le_succ _, fun b hb => Lib.bytesWorld_at_old w e t b hb⟩
theorem denC_strs {R : RHeap} (ps : List ByteArray) : DenC R (ps.map Value.string) (((ps.map (·.data.toList)).map fun s : List UInt8 => [AV.str s]).flatten) := by
  have e : ((ps.map (·.data.toList)).map fun s : List UInt8 => [AV.str s]).flatten = (ps.map Value.string).map AV.is := by
    induction ps with
    | nil => rfl
    | cons b ps ih =>
      simp only [List.map_cons, List.flatten_cons, ih, List.cons_append, List.nil_append]
      rfl
  rw [e]
  refine ⟨by simp, fun i v x hv hx => ?_⟩
  rw [List.getElem?_map, hv] at hx
  injection hx with hx; subst hx
  obtain ⟨b, _, rfl⟩ := List.mem_map.1 (List.mem_of_getElem? hv)
  exact ⟨rfl, rfl⟩
theorem pieces_own {f : FuncId} {T : World → Prop} {s : List UInt8} {c : UInt8} {t : TypeId} {L : List (List UInt8)} {ps : List ByteArray} (hL : ps.map (·.data.toList) = L) (hlen : ps.length ≤ maxLen)
    (h : ∀ w : World, T w → Calls P f #[.string ⟨s.toArray⟩, .string ⟨#[c]⟩] w fun e w' => e = .returned (.slice (some ⟨w.heap.size, 0, none⟩) ps.length ps.length) ∧ w' = w.alloc (.cells (ps.map Value.string).toArray t)) :
    GSpec P f [AV.wt T (AV.str s), AV.str [c]] [] (fun _ : Value => True) (fun v => [.arr v t 1 (L.map fun x => [AV.str x])]) (fun v => AV.is v) := fun R w vs hr hd _ _ => by
  match vs, hd.1 with
  | [u, v], _ =>
    have h1 := hd.2 0 u _ rfl rfl
    have h2 := hd.2 1 v _ rfl rfl
    rw [show u = Value.string ⟨s.toArray⟩ from h1.1, show v = Value.string ⟨#[c]⟩ from h2]
    refine (h w (h1.2 w hr)).mono fun e w' ⟨e1, e2⟩ => ?_
    subst e1; subst e2; subst hL
    refine ⟨_, _, R, trivial, rfl, rfl, ?_⟩
    exact core_arr_new (core_start hr) (by simp) (Nat.le_refl _) hlen (by simp) (fun x hx => by
      obtain ⟨b, _, rfl⟩ := List.mem_map.1 hx; rfl) (by
      have h9 := denC_strs (R := R) ps
      have e9 : ((ps.map Value.string).toArray.toList.take (ps.length * 1)) = ps.map Value.string := by rw [Nat.mul_one]; exact List.take_of_length_le (by simp)
      rw [e9]; exact h9)
theorem handed_shaped {H : Type} {enc : TypeId × Value → H} {a : Assume} {C : Checked} {os : Os} {f : FuncId} {fn : Func} {s : ChangeSpec} {conds : List PathCond} {apart fresh handsOn again : Bool} {X : World → Array Value → Prop}
    (hX : ∀ (w w' : World) (args : Array Value), w.heap = w'.heap → X w args → X w' args)
    (own : ownKnob C.prog.godebug = none) (started : os.Started) (noInit : C.prog.inits.idxOf? f = none) (hfn : C.prog.funcs[f]? = some fn)
    (witness : ∃ (w : World) (tape : Tape) (i : Input), w.os = os ∧ (w.forCall tape i).Shaped C.prog ∧ i.vars = [] ∧ Input.okWide C.prog (w.forCall tape i) .any w.heap.size f i ∧
      ((s.pre enc C.prog fn conds apart (w.forCall tape i).memory i.args ∧ X (w.forCall tape i).memory i.args) ∧ sizedMet enc C.prog fn (OpenSpec.ofChange s) apart (w.forCall tape i).memory i.args) ∧ a.holds C.prog (lone (Frame.enter C.prog f i.args .normal) [] (w.forCall tape i)))
    (contract : ∀ (W : World) (base : Nat) (args : Array Value) (ds gs : List (DataW H)) (before : List MemPlace),
      (∀ (j : Nat) t v, fn.params[j]? = some t → args[j]? = some v → Value.okWide C.prog W .any base t v) →
      DataW.Whole enc C.prog fn.params.toList s.vars apart W args.toList ds gs before →
      W.ShapedOpen C.prog →
      (DataW.weightsEach C.prog (fn.params.toList ++ s.plain.varTypes C.prog) (ds ++ gs)).all (· ≤ reachBytes) = true → X W args →
      a.holds C.prog (lone (Frame.enter C.prog f args .normal) [] W) →
      Calls C.prog f args W fun e W' => ∃ v, e = .returned v ∧ s.post enc C.prog fn apart fresh handsOn again W args v W') :
    ReturnsInHanded a C os f .any (fun w args => (s.pre enc C.prog fn conds apart w args ∧ X w args) ∧ sizedMet enc C.prog fn (OpenSpec.ofChange s) apart w args) (s.post enc C.prog fn apart fresh handsOn again) := by
  refine returnsInHanded_of_calls own started noInit witness ?_
  intro w tape i _ hsh _ hok hpre hholds
  obtain ⟨_, _, _, fn', hfn', _, _, _, _, hval⟩ := hok
  have e : fn' = fn := Option.some.inj (hfn'.symm.trans hfn)
  subst e
  obtain ⟨⟨⟨ds, gs, before, hw, hc⟩, hx⟩, hz⟩ := hpre
  have hw' := DataW.Whole.of_heap (w' := w.forCall tape i) (by rfl) hw
  refine (contract (w.forCall tape i) w.heap.size i.args ds gs before hval hw' hsh (hz.weights hw) (hX _ _ _ (by rfl) hx) hholds).mono fun e W' ⟨v, he, hp⟩ => ?_
  subst he
  exact ChangeSpec.post_blind hp
theorem cell_heap {W w' : World} {g : Nat} {v : Value} (h : W.cell? ⟨g, 0, none⟩ = some v) (hw : RLe (heapR W) w') : w'.cell? ⟨g, 0, none⟩ = some v := by
  unfold World.cell? at h ⊢
  dsimp only at h ⊢
  cases ho : W.heap[g]? with
  | none => rw [ho] at h; simp at h
  | some o => rw [ho] at h; rw [hw g o ho]; exact h
theorem var_heap {P : Program} {W w' : World} {name : String} {vs : Array Value} (h : W.var? P name = some vs) (hw : RLe (heapR W) w') : w'.var? P name = some vs := by
  unfold World.var? at h ⊢
  cases hg : P.globalNamed name with
  | none => rw [hg] at h; cases h
  | some g =>
    rw [hg] at h
    simp only [Option.bind_some] at h ⊢
    cases ho : W.heap[g]? with
    | none => rw [ho] at h; cases h
    | some o =>
      rw [ho] at h
      rw [hw g o ho]
      exact h
end
end Go.AV

namespace Go.Proofs
open Go.Shelf
set_option linter.unusedVariables false
def Tryd.split_ren : Go.Shelf.Ren := ⟨fun | 146 => 43 | 221 => 69 | 268 => 84 | 138 => 85 | 143 => 86 | 195 => 97 | 197 => 98 | 218 => 99 | 219 => 89 | 260 => 113 | 217 => 105 | 225 => 106 | 224 => 107 | 267 => 108 | 266 => 117 | 314 => 118 | n => n, fun | 9 => 9 | 31 => 30 | 3 => 3 | 4 => 4 | 0 => 0 | 105 => 103 | 21 => 21 | 5 => 5 | 46 => 111 | 119 => 130 | 139 => 133 | 138 => 132 | 146 => 124 | 51 => 123 | n => n, fun | 1 => 0 | 3 => 4 | 4 => 5 | n => n⟩
theorem Tryd.split : Go.Proofs.Lays.n146 Tryd.prog Tryd.split_ren := {
  mixed := by kernel_rfl
  f138 := Tryd.func85.trans (congrArg some (by kernel_rfl))
  f143 := Tryd.func86.trans (congrArg some (by kernel_rfl))
  f146 := Tryd.func43.trans (congrArg some (by kernel_rfl))
  f195 := Tryd.func97.trans (congrArg some (by kernel_rfl))
  f197 := Tryd.func98.trans (congrArg some (by kernel_rfl))
  f217 := Tryd.func105.trans (congrArg some (by kernel_rfl))
  f218 := Tryd.func99.trans (congrArg some (by kernel_rfl))
  f219 := Tryd.func89.trans (congrArg some (by kernel_rfl))
  f221 := Tryd.func69.trans (congrArg some (by kernel_rfl))
  f224 := Tryd.func107.trans (congrArg some (by kernel_rfl))
  f225 := Tryd.func106.trans (congrArg some (by kernel_rfl))
  f260 := Tryd.func113.trans (congrArg some (by kernel_rfl))
  f266 := Tryd.func117.trans (congrArg some (by kernel_rfl))
  f267 := Tryd.func108.trans (congrArg some (by kernel_rfl))
  f268 := Tryd.func84.trans (congrArg some (by kernel_rfl))
  f314 := Tryd.func118.trans (congrArg some (by kernel_rfl))
  t0 := Tryd.underlying0
  a0 := Tryd.isAgg0
  z0 := Tryd.sizeOf0
  v0 := Tryd.zeroValue0
  t3 := Tryd.underlying3
  a3 := Tryd.isAgg3
  z3 := Tryd.sizeOf3
  v3 := Tryd.zeroValue3
  t4 := Tryd.underlying4
  a4 := Tryd.isAgg4
  z4 := Tryd.sizeOf4
  v4 := Tryd.zeroValue4
  t5 := Tryd.underlying5
  a5 := Tryd.isAgg5
  z5 := Tryd.sizeOf5
  v5 := Tryd.zeroValue5
  t9 := Tryd.underlying9
  a9 := Tryd.isAgg9
  z9 := Tryd.sizeOf9
  v9 := Tryd.zeroValue9
  t21 := Tryd.underlying21
  a21 := Tryd.isAgg21
  z21 := Tryd.sizeOf21
  v21 := Tryd.zeroValue21
  t31 := Tryd.underlying30
  a31 := Tryd.isAgg30
  z31 := Tryd.sizeOf30
  v31 := Tryd.zeroValue30
  t46 := Tryd.underlying111
  a46 := Tryd.isAgg111
  z46 := Tryd.sizeOf111
  v46 := Tryd.zeroValue111
  t51 := Tryd.underlying123
  a51 := Tryd.isAgg123
  z51 := Tryd.sizeOf123
  v51 := Tryd.zeroValue123
  t105 := Tryd.underlying103
  a105 := Tryd.isAgg103
  z105 := Tryd.sizeOf103
  v105 := Tryd.zeroValue103
  t119 := Tryd.underlying130
  a119 := Tryd.isAgg130
  z119 := Tryd.sizeOf130
  t138 := Tryd.underlying132
  a138 := Tryd.isAgg132
  z138 := Tryd.sizeOf132
  v138 := Tryd.zeroValue132
  t139 := Tryd.underlying133
  a139 := Tryd.isAgg133
  z139 := Tryd.sizeOf133
  v139 := Tryd.zeroValue133
  t146 := Tryd.underlying124
  a146 := Tryd.isAgg124
  z146 := Tryd.sizeOf124
  v146 := Tryd.zeroValue124
  g1 := by kernel_rfl
  g3 := by kernel_rfl
  g4 := by kernel_rfl }
def Tryd.cut_ren : Go.Shelf.Ren := ⟨fun | 145 => 45 | 220 => 71 | 219 => 89 | 217 => 105 | 225 => 106 | 224 => 107 | 267 => 108 | 266 => 117 | 314 => 118 | n => n, fun | 9 => 9 | 4 => 4 | 59 => 66 | 3 => 3 | 5 => 5 | 46 => 111 | 146 => 124 | 51 => 123 | n => n, fun | 1 => 0 | n => n⟩
theorem Tryd.cut : Go.Proofs.Lays.n145 Tryd.prog Tryd.cut_ren := {
  mixed := by kernel_rfl
  f145 := Tryd.func45.trans (congrArg some (by kernel_rfl))
  f217 := Tryd.func105.trans (congrArg some (by kernel_rfl))
  f219 := Tryd.func89.trans (congrArg some (by kernel_rfl))
  f220 := Tryd.func71.trans (congrArg some (by kernel_rfl))
  f224 := Tryd.func107.trans (congrArg some (by kernel_rfl))
  f225 := Tryd.func106.trans (congrArg some (by kernel_rfl))
  f266 := Tryd.func117.trans (congrArg some (by kernel_rfl))
  f267 := Tryd.func108.trans (congrArg some (by kernel_rfl))
  f314 := Tryd.func118.trans (congrArg some (by kernel_rfl))
  t3 := Tryd.underlying3
  a3 := Tryd.isAgg3
  z3 := Tryd.sizeOf3
  v3 := Tryd.zeroValue3
  t4 := Tryd.underlying4
  a4 := Tryd.isAgg4
  z4 := Tryd.sizeOf4
  v4 := Tryd.zeroValue4
  t5 := Tryd.underlying5
  a5 := Tryd.isAgg5
  z5 := Tryd.sizeOf5
  v5 := Tryd.zeroValue5
  t9 := Tryd.underlying9
  a9 := Tryd.isAgg9
  z9 := Tryd.sizeOf9
  v9 := Tryd.zeroValue9
  t46 := Tryd.underlying111
  a46 := Tryd.isAgg111
  z46 := Tryd.sizeOf111
  v46 := Tryd.zeroValue111
  t51 := Tryd.underlying123
  a51 := Tryd.isAgg123
  z51 := Tryd.sizeOf123
  v51 := Tryd.zeroValue123
  t59 := Tryd.underlying66
  a59 := Tryd.isAgg66
  z59 := Tryd.sizeOf66
  v59 := Tryd.zeroValue66
  t146 := Tryd.underlying124
  a146 := Tryd.isAgg124
  z146 := Tryd.sizeOf124
  v146 := Tryd.zeroValue124
  g1 := by kernel_rfl }
def Tryd.trimSuffix_ren : Go.Shelf.Ren := ⟨fun | 102 => 46 | 209 => 72 | 207 => 90 | n => n, fun | 9 => 9 | 4 => 4 | 3 => 3 | n => n, fun | n => n⟩
theorem Tryd.trimSuffix : Go.Proofs.Lays.n102 Tryd.prog Tryd.trimSuffix_ren := {
  mixed := by kernel_rfl
  f102 := Tryd.func46.trans (congrArg some (by kernel_rfl))
  f207 := Tryd.func90.trans (congrArg some (by kernel_rfl))
  f209 := Tryd.func72.trans (congrArg some (by kernel_rfl))
  t3 := Tryd.underlying3
  a3 := Tryd.isAgg3
  z3 := Tryd.sizeOf3
  v3 := Tryd.zeroValue3
  t4 := Tryd.underlying4
  a4 := Tryd.isAgg4
  z4 := Tryd.sizeOf4
  v4 := Tryd.zeroValue4
  t9 := Tryd.underlying9
  a9 := Tryd.isAgg9
  z9 := Tryd.sizeOf9
  v9 := Tryd.zeroValue9 }
def Tryd.atoi_ren : Go.Shelf.Ren := ⟨fun | 172 => 70 | 244 => 87 | 245 => 88 | 247 => 100 | 279 => 101 | 280 => 102 | 281 => 103 | 282 => 104 | 287 => 114 | 316 => 115 | 171 => 62 | 205 => 116 | 321 => 124 | 322 => 125 | 243 => 81 | 246 => 96 | 283 => 109 | 284 => 110 | 285 => 111 | 286 => 112 | 129 => 120 | 317 => 119 | 318 => 121 | 319 => 122 | 320 => 123 | 337 => 126 | 338 => 127 | n => n, fun | 9 => 9 | 3 => 3 | 75 => 84 | 76 => 85 | 4 => 4 | 5 => 5 | 167 => 105 | 37 => 44 | 0 => 0 | 85 => 106 | 2 => 2 | 168 => 108 | 53 => 70 | 175 => 117 | 46 => 111 | 210 => 121 | 127 => 135 | 145 => 138 | 143 => 136 | 21 => 21 | 171 => 112 | 173 => 115 | 212 => 127 | 51 => 123 | 20 => 20 | 213 => 128 | 232 => 140 | 233 => 141 | 80 => 92 | n => n, fun | 15 => 1 | 16 => 2 | 17 => 3 | 18 => 6 | 19 => 7 | n => n⟩
theorem Tryd.atoi : Go.Proofs.LaysC.n172 Tryd.prog Tryd.atoi_ren := {
  mixed := by kernel_rfl
  f129 := Tryd.func120.trans (congrArg some (by kernel_rfl))
  f171 := Tryd.func62.trans (congrArg some (by kernel_rfl))
  f172 := Tryd.func70.trans (congrArg some (by kernel_rfl))
  f205 := Tryd.func116.trans (congrArg some (by kernel_rfl))
  f243 := Tryd.func81.trans (congrArg some (by kernel_rfl))
  f244 := Tryd.func87.trans (congrArg some (by kernel_rfl))
  f245 := Tryd.func88.trans (congrArg some (by kernel_rfl))
  f246 := Tryd.func96.trans (congrArg some (by kernel_rfl))
  f247 := Tryd.func100.trans (congrArg some (by kernel_rfl))
  f279 := Tryd.func101.trans (congrArg some (by kernel_rfl))
  f280 := Tryd.func102.trans (congrArg some (by kernel_rfl))
  f281 := Tryd.func103.trans (congrArg some (by kernel_rfl))
  f282 := Tryd.func104.trans (congrArg some (by kernel_rfl))
  f283 := Tryd.func109.trans (congrArg some (by kernel_rfl))
  f284 := Tryd.func110.trans (congrArg some (by kernel_rfl))
  f285 := Tryd.func111.trans (congrArg some (by kernel_rfl))
  f286 := Tryd.func112.trans (congrArg some (by kernel_rfl))
  f287 := Tryd.func114.trans (congrArg some (by kernel_rfl))
  f316 := Tryd.func115.trans (congrArg some (by kernel_rfl))
  f317 := Tryd.func119.trans (congrArg some (by kernel_rfl))
  f318 := Tryd.func121.trans (congrArg some (by kernel_rfl))
  f319 := Tryd.func122.trans (congrArg some (by kernel_rfl))
  f320 := Tryd.func123.trans (congrArg some (by kernel_rfl))
  f321 := Tryd.func124.trans (congrArg some (by kernel_rfl))
  f322 := Tryd.func125.trans (congrArg some (by kernel_rfl))
  f337 := Tryd.func126.trans (congrArg some (by kernel_rfl))
  f338 := Tryd.func127.trans (congrArg some (by kernel_rfl))
  t0 := Tryd.underlying0
  a0 := Tryd.isAgg0
  z0 := Tryd.sizeOf0
  v0 := Tryd.zeroValue0
  t2 := Tryd.underlying2
  a2 := Tryd.isAgg2
  z2 := Tryd.sizeOf2
  v2 := Tryd.zeroValue2
  t3 := Tryd.underlying3
  a3 := Tryd.isAgg3
  z3 := Tryd.sizeOf3
  v3 := Tryd.zeroValue3
  t4 := Tryd.underlying4
  a4 := Tryd.isAgg4
  z4 := Tryd.sizeOf4
  v4 := Tryd.zeroValue4
  t5 := Tryd.underlying5
  a5 := Tryd.isAgg5
  z5 := Tryd.sizeOf5
  v5 := Tryd.zeroValue5
  t9 := Tryd.underlying9
  a9 := Tryd.isAgg9
  z9 := Tryd.sizeOf9
  v9 := Tryd.zeroValue9
  t20 := Tryd.underlying20
  a20 := Tryd.isAgg20
  z20 := Tryd.sizeOf20
  v20 := Tryd.zeroValue20
  t21 := Tryd.underlying21
  a21 := Tryd.isAgg21
  z21 := Tryd.sizeOf21
  v21 := Tryd.zeroValue21
  t37 := Tryd.underlying44
  a37 := Tryd.isAgg44
  z37 := Tryd.sizeOf44
  v37 := Tryd.zeroValue44
  t46 := Tryd.underlying111
  a46 := Tryd.isAgg111
  z46 := Tryd.sizeOf111
  v46 := Tryd.zeroValue111
  t51 := Tryd.underlying123
  a51 := Tryd.isAgg123
  z51 := Tryd.sizeOf123
  v51 := Tryd.zeroValue123
  t53 := Tryd.underlying70
  a53 := Tryd.isAgg70
  z53 := Tryd.sizeOf70
  v53 := Tryd.zeroValue70
  t75 := Tryd.underlying84
  a75 := Tryd.isAgg84
  z75 := Tryd.sizeOf84
  v75 := Tryd.zeroValue84
  t76 := Tryd.underlying85
  a76 := Tryd.isAgg85
  z76 := Tryd.sizeOf85
  v76 := Tryd.zeroValue85
  t85 := Tryd.underlying106
  a85 := Tryd.isAgg106
  z85 := Tryd.sizeOf106
  v85 := Tryd.zeroValue106
  t127 := Tryd.underlying135
  a127 := Tryd.isAgg135
  z127 := Tryd.sizeOf135
  v127 := Tryd.zeroValue135
  t143 := Tryd.underlying136
  a143 := Tryd.isAgg136
  z143 := Tryd.sizeOf136
  v143 := Tryd.zeroValue136
  t145 := Tryd.underlying138
  a145 := Tryd.isAgg138
  z145 := Tryd.sizeOf138
  v145 := Tryd.zeroValue138
  t167 := Tryd.underlying105
  a167 := Tryd.isAgg105
  z167 := Tryd.sizeOf105
  v167 := Tryd.zeroValue105
  t168 := Tryd.underlying108
  a168 := Tryd.isAgg108
  z168 := Tryd.sizeOf108
  v168 := Tryd.zeroValue108
  t171 := Tryd.underlying112
  a171 := Tryd.isAgg112
  z171 := Tryd.sizeOf112
  v171 := Tryd.zeroValue112
  t173 := Tryd.underlying115
  a173 := Tryd.isAgg115
  z173 := Tryd.sizeOf115
  v173 := Tryd.zeroValue115
  t175 := Tryd.underlying117
  a175 := Tryd.isAgg117
  z175 := Tryd.sizeOf117
  v175 := Tryd.zeroValue117
  t210 := Tryd.underlying121
  a210 := Tryd.isAgg121
  z210 := Tryd.sizeOf121
  v210 := Tryd.zeroValue121
  t212 := Tryd.underlying127
  a212 := Tryd.isAgg127
  z212 := Tryd.sizeOf127
  v212 := Tryd.zeroValue127
  t213 := Tryd.underlying128
  a213 := Tryd.isAgg128
  z213 := Tryd.sizeOf128
  t232 := Tryd.underlying140
  a232 := Tryd.isAgg140
  z232 := Tryd.sizeOf140
  v232 := Tryd.zeroValue140
  t233 := Tryd.underlying141
  a233 := Tryd.isAgg141
  z233 := Tryd.sizeOf141
  v233 := Tryd.zeroValue141
  g15 := by kernel_rfl
  g16 := by kernel_rfl
  g17 := by kernel_rfl
  g18 := by kernel_rfl
  g19 := by kernel_rfl
  t80 := Tryd.underlying92
  a80 := Tryd.isAgg92
  z80 := Tryd.sizeOf92
  v80 := Tryd.zeroValue92
  i0 := by kernel_rfl
  i2 := by kernel_rfl
  i3 := by kernel_rfl
  i4 := by kernel_rfl
  i5 := by kernel_rfl
  i9 := by kernel_rfl
  i20 := by kernel_rfl
  i21 := by kernel_rfl
  i37 := by kernel_rfl
  i46 := by kernel_rfl
  i51 := by kernel_rfl
  i53 := by kernel_rfl
  i75 := by kernel_rfl
  i76 := by kernel_rfl
  i80 := by kernel_rfl
  i85 := by kernel_rfl
  i127 := by kernel_rfl
  i143 := by kernel_rfl
  i145 := by kernel_rfl
  i167 := by kernel_rfl
  i168 := by kernel_rfl
  i171 := by kernel_rfl
  i173 := by kernel_rfl
  i175 := by kernel_rfl
  i210 := by kernel_rfl
  i212 := by kernel_rfl
  i232 := by kernel_rfl
  i233 := by kernel_rfl
  m15 := by kernel_rfl
  m16 := by kernel_rfl
  m17 := by kernel_rfl
  m18 := by kernel_rfl
  m19 := by kernel_rfl
  c0 := by kernel_rfl
  c2 := by kernel_rfl
  c3 := by kernel_rfl
  c4 := by kernel_rfl
  c5 := by kernel_rfl
  c9 := by kernel_rfl
  c20 := by kernel_rfl
  c21 := by kernel_rfl
  c37 := by kernel_rfl
  c46 := by kernel_rfl
  c51 := by kernel_rfl
  c53 := by kernel_rfl
  c75 := by kernel_rfl
  c76 := by kernel_rfl
  c80 := by kernel_rfl
  c85 := by kernel_rfl
  c127 := by kernel_rfl
  c143 := by kernel_rfl
  c145 := by kernel_rfl
  c167 := by kernel_rfl
  c168 := by kernel_rfl
  c171 := by kernel_rfl
  c173 := by kernel_rfl
  c175 := by kernel_rfl
  c210 := by kernel_rfl
  c212 := by kernel_rfl
  c213 := by kernel_rfl
  c232 := by kernel_rfl
  c233 := by kernel_rfl }
end Go.Proofs

set_option linter.unusedVariables false
set_option linter.unusedSimpArgs false
set_option maxRecDepth 100000
namespace Go.Proofs.YtdgoejkijpllpaaDoor
open Go Go.AV Go.M
attribute [local irreducible] OpW OpA OpS AWP FSpec ESpec GSpec OpE RetOk RetOkG RvDen Le Ev GuardIs SrcIs Int.tmod Int.tdiv IntKind.wrap
def readW (w : World) : Prop := tabW w ∧ (∃ m, w.cell? ⟨0, 0, none⟩ = some (.int .i64 m)) ∧ (∃ tp p, w.var? Tryd.prog "strconv.ErrSyntax" = some #[.iface tp p]) ∧ (∃ tp p, w.var? Tryd.prog "strconv.ErrRange" = some #[.iface tp p])
theorem readW_heap {W w' : World} (h : readW W) (hw : RLe (heapR W) w') : readW w' :=
  let ⟨h1, ⟨m, h2⟩, ⟨t3, p3, h3⟩, ⟨t4, p4, h4⟩⟩ := h
  ⟨tabW_heap h1 hw, ⟨m, cell_heap h2 hw⟩, ⟨t3, p3, var_heap h3 hw⟩, ⟨t4, p4, var_heap h4 hw⟩⟩
theorem split_spec (s : Str) (c : UInt8) (hs : s.length ≤ 1048576) : FSpec Tryd.prog 43 [AV.wt readW (AV.str s), AV.str [c]] (strs (splitC c s)) := by
  have hsz : (ByteArray.mk s.toArray).size = s.length := size_mk s
  have hle := Lib.countB_le ⟨#[c]⟩ (Nat.le_refl 1) _ ⟨s.toArray⟩ (Nat.le_refl _)
  have hlen := Lib.splitB_all ⟨#[c]⟩ (Nat.le_refl 1) 0 _ ⟨s.toArray⟩ rfl
  refine fspec_of_gspec (pieces_own (T := readW) (t := 9) (s := s) (c := c) (ps := Lib.splitB ⟨#[c]⟩ 0 (Lib.countB ⟨s.toArray⟩ ⟨#[c]⟩) ⟨s.toArray⟩) ?_ ?_ fun w hT => ?_) fun v _ => lt_arr (List.mem_singleton.2 rfl) le_refl_e
  · rw [Lib.splitB_data]
    show Lib.splitK [c] 0 (Lib.count s [c]) s = _
    rw [Lib.count_one]
    exact split_rec c s _ rfl
  · rw [hlen]; unfold maxLen; omega
  · obtain ⟨_, ⟨m, hm⟩, _⟩ := hT
    refine (Any.strings_Split Tryd.split (by kernel_rfl) ⟨s.toArray⟩ ⟨#[c]⟩ m w (by rw [hsz]; omega) hm (Nat.le_refl 1)).mono fun e w' ⟨e1, e2⟩ => ?_
    rw [hlen]
    exact ⟨e1, e2⟩
theorem cut_spec (s : Str) (c : UInt8) (hs : s.length ≤ 1048576) : FSpec Tryd.prog 45 [AV.wt readW (AV.str s), AV.str [c]] (AV.tup [AV.str (Lib.cut s [c]).1, AV.str (Lib.cut s [c]).2.1, AV.bool (Lib.cut s [c]).2.2]) :=
  fspec_wtL fun R w v vs hr hx hd hT => by
    match vs, hd.1 with
    | [u], _ =>
      obtain ⟨_, ⟨m, hm⟩, _⟩ := hT
      have hsz : (ByteArray.mk s.toArray).size = s.length := size_mk s
      rw [show v = Value.string ⟨s.toArray⟩ from hx, show u = Value.string ⟨#[c]⟩ from hd.2 1 u _ rfl rfl]
      refine (Any.strings_Cut Tryd.cut ⟨s.toArray⟩ ⟨#[c]⟩ m w (by rw [hsz]; omega) hm).mono ?_
      rintro e w' ⟨rfl, n, rfl⟩
      exact ⟨_, rfl, ⟨_, rfl, DenV.cons rfl (DenV.cons rfl (DenV.cons rfl (DenV.nil _)))⟩, below_drew w n⟩
theorem trimSuffix_spec (s p : Str) (hs : s.length ≤ 1048576) : FSpec Tryd.prog 46 [AV.str s, AV.str p] (AV.str (Lib.trimSuffix s p)) :=
  fspec_lib2 fun R w u v hu hv => by
    have hsz : (ByteArray.mk s.toArray).size = s.length := size_mk s
    rw [show u = Value.string ⟨s.toArray⟩ from hu, show v = Value.string ⟨p.toArray⟩ from hv]
    refine (Any.strings_TrimSuffix Tryd.trimSuffix ⟨s.toArray⟩ ⟨p.toArray⟩ w (by rw [hsz]; omega)).mono ?_
    rintro e w' ⟨rfl, rfl⟩
    exact ⟨_, rfl, rfl, below_same w'⟩
theorem atoi_spec (s : Str) (hs : s.length ≤ 1048576) : FSpec Tryd.prog 70 [AV.wt readW (AV.str s)] (AV.tup [AV.int (atoiV s), AV.errB (atoiBad s)]) :=
  fspec_wt fun R w v hr hx hT => by
    have hsz : (ByteArray.mk s.toArray).size = s.length := size_mk s
    obtain ⟨_, _, ⟨t3, p3, h3⟩, ⟨t4, p4, h4⟩⟩ := hT
    rw [show v = Value.string ⟨s.toArray⟩ from hx]
    rcases ha : Lib.atoiAll s with n | _ | _
    · have e1 : atoiV s = n := by unfold atoiV; rw [ha]
      have e2 : atoiBad s = false := by unfold atoiBad; rw [ha]
      rw [e1, e2]
      refine (Any.strconv_Atoi_ok Tryd.atoi ⟨s.toArray⟩ (by rw [hsz]; omega) n ha w).mono ?_
      rintro e w' ⟨rfl, hw⟩
      exact ⟨_, rfl, ⟨_, rfl, DenV.cons rfl (DenV.cons ⟨fun _ => rfl, fun h => (by cases h)⟩ (DenV.nil _))⟩, by (rcases hw with rfl | ⟨t, rfl⟩); exact below_same _; exact below_bytes _ _ _⟩
    · have e1 : atoiV s = 0 := by unfold atoiV; rw [ha]
      have e2 : atoiBad s = true := by unfold atoiBad; rw [ha]
      rw [e1, e2]
      refine (Any.strconv_Atoi_syntax_var Tryd.atoi ⟨s.toArray⟩ (by rw [hsz]; omega) ha t3 p3 w h3).mono ?_
      rintro e w' ⟨N, rfl, _, _, hb⟩
      exact ⟨_, rfl, ⟨_, rfl, DenV.cons rfl (DenV.cons ⟨fun h => (by cases h), fun _ => ⟨_, _, rfl⟩⟩ (DenV.nil _))⟩, hb⟩
    · have e1 : atoiV s = Lib.atoiSat s := by unfold atoiV; rw [ha]
      have e2 : atoiBad s = true := by unfold atoiBad; rw [ha]
      rw [e1, e2]
      refine (Any.strconv_Atoi_range_var Tryd.atoi ⟨s.toArray⟩ (by rw [hsz]; omega) ha t4 p4 w h4).mono ?_
      rintro e w' ⟨N, rfl, _, _, hb⟩
      exact ⟨_, rfl, ⟨_, rfl, DenV.cons rfl (DenV.cons ⟨fun h => (by cases h), fun _ => ⟨_, _, rfl⟩⟩ (DenV.nil _))⟩, hb⟩
end Go.Proofs.YtdgoejkijpllpaaDoor

set_option linter.unusedVariables false
set_option linter.unusedSimpArgs false
set_option maxRecDepth 100000
set_option maxHeartbeats 1000000
namespace Go.M
open Go.AV
theorem atoiV_rng (s : Str) : -9223372036854775808 ≤ atoiV s ∧ atoiV s ≤ 9223372036854775807 := by
  unfold atoiV
  split
  · rename_i h; exact Lib.atoiAll_bounds h
  · unfold Lib.atoiSat; split <;> omega
  · omega
theorem bad_cons (b : UInt8) (r : Str) : l1BadB (b :: r) = (!within ((b :: r).length : Nat) 1 6 || (((b.toNat : Int) == 48) && decide ((1 : Int) < ((b :: r).length : Nat)))) := by
  unfold l1BadB
  have : (b == 48) = ((b.toNat : Int) == 48) := by
    by_cases h : b = 48
    · subst h; rfl
    · have h2 : b.toNat ≠ 48 := fun e => h (UInt8.toNat_inj.1 e)
      have h3 : (b == 48) = false := by simpa using h
      rw [h3]; symm; simp; omega
  simp [this]
theorem dig_val {x : UInt8} (h : 48 ≤ x.toNat ∧ x.toNat ≤ 57) : IntKind.i64.wrap (IntKind.u8.wrap ((x.toNat : Int) - 48)) = ((x.toNat - 48 : Nat) : Int) := by
  have e : IntKind.u8.wrap ((x.toNat : Int) - 48) = ((x.toNat - 48 : Nat) : Int) := by
    simp [IntKind.wrap, IntKind.bits, IntKind.signed]; omega
  rw [e, in64 (by omega)]
theorem rd_next {n i : Nat} {s : Str} {x : UInt8} (hx : s[i]? = some x) (h : 48 ≤ x.toNat ∧ x.toNat ≤ 57) : rdFrom n (s.drop i) = rdFrom (10 * n + (x.toNat - 48)) (s.drop (i + 1)) := by
  have hlt := (List.getElem?_eq_some_iff.1 hx).1
  rw [List.drop_eq_getElem_cons hlt, (List.getElem?_eq_some_iff.1 hx).2]
  conv => lhs; unfold rdFrom
  rw [if_pos (by unfold isDig; simp; omega)]
theorem rd_stop {n i : Nat} {s : Str} {x : UInt8} (hx : s[i]? = some x) (h : x.toNat < 48 ∨ 57 < x.toNat) : rdFrom n (s.drop i) = -1 := by
  have hlt := (List.getElem?_eq_some_iff.1 hx).1
  rw [List.drop_eq_getElem_cons hlt, (List.getElem?_eq_some_iff.1 hx).2]
  conv => lhs; unfold rdFrom
  rw [if_neg (by unfold isDig; simp; omega)]
theorem pow6 {i : Nat} (h : i ≤ 6) : 10 ^ i ≤ 1000000 := Nat.pow_le_pow_right (by decide) h
theorem pow_nx {n i d : Nat} (h : n + 1 ≤ 10 ^ i) (hd : d ≤ 9) : (10 * n + d) + 1 ≤ 10 ^ (i + 1) := by rw [Nat.pow_succ]; omega
end Go.M
namespace Go.Proofs.YtdgoejkijpllpaaDoor
open Go Go.AV Go.M
attribute [local irreducible] OpW OpA OpS AWP FSpec ESpec GSpec OpE RetOk RetOkG RvDen Le Ev GuardIs SrcIs Int.tmod Int.tdiv IntKind.wrap
theorem readInt_spec (s : Str) (lo hi : Int) (hs : s.length ≤ 1048576) : FSpec Tryd.prog 44 [AV.wt readW (AV.str s), AV.int lo, AV.int hi] (AV.tup [AV.int (readI s lo hi).1, AV.bool (readI s lo hi).2]) := by
  refine spec_of_awp Tryd.func44 rfl Tryd.ntmps44 rfl ?_
  refine AWP.le (le_tab (t := 0) rfl) ?_
  refine awp_seq ?_
  refine awp_region ?_
  refine sq_plain rfl rfl rfl (w_assign rfl ev_ci) ?_
  refine sq_plain rfl rfl rfl (w_assign rfl ev_cb) ?_
  refine sq_nil ?_
  refine awp_seq ?_
  refine awp_region ?_
  refine sq_plain rfl rfl rfl (w_move rfl (ev_tmp rfl)) ?_
  refine sq_plain rfl rfl rfl (w_callT 0 rfl rfl Tryd.call70 rfl (atoi_spec s hs) (evl_cons (ev_tmp rfl) evl_nil) (by first | exact fun _ h => h | exact fun _ h => h.1)) ?_
  refine sq_plain rfl rfl rfl (w_move rfl (ev_tmp rfl)) ?_
  refine sq_plain rfl rfl rfl (w_extract rfl (ev_tmp rfl) rfl) ?_
  refine sq_plain rfl rfl rfl (w_extract rfl (ev_tmp rfl) rfl) ?_
  refine sq_plain rfl rfl rfl (w_assign rfl (ev_tmp rfl)) ?_
  refine sq_plain rfl rfl rfl (w_assign rfl (ev_tmp rfl)) ?_
  refine sq_nil ?_
  refine awp_seq ?_
  refine awp_seq ?_
  refine awp_region ?_
  refine sq_plain rfl rfl rfl (w_move rfl (ev_tmp rfl)) ?_
  refine sq_plain rfl rfl rfl (w_errneq rfl (by kernel_rfl) (ev_tmp rfl)) ?_
  refine sq_plain rfl rfl rfl (w_move rfl (ev_tmp rfl)) ?_
  refine sq_grd rfl rfl (guard_f rfl rfl rfl) (fun hc => w_move rfl (ev_tmp rfl)) ?_
  refine sq_grd rfl rfl (guard_f rfl rfl rfl) (fun hc => w_move rfl (ev_tmp rfl)) ?_
  refine sq_grd rfl rfl (guard_f rfl rfl rfl) (fun hc => w_move rfl (ev_tmp rfl)) ?_
  refine sq_grd rfl rfl (guard_f rfl rfl rfl) (fun hc => w_call rfl Tryd.call65 rfl (within_spec _ _ _) (evl_cons (ev_whn rfl hc) (evl_cons (ev_whn rfl hc) (evl_cons (ev_whn rfl hc) evl_nil)))) ?_
  refine sq_grd rfl rfl (guard_f rfl rfl rfl) (fun hc => w_not rfl (ev_whn rfl hc)) ?_
  refine sq_plain rfl rfl rfl (w_or rfl (ev_tmp rfl) (evif_w rfl)) ?_
  refine sq_plain rfl rfl rfl (w_move rfl (ev_tmp rfl)) ?_
  refine sq_grd rfl rfl (guard_f rfl rfl rfl) (fun hc => w_move rfl (ev_tmp rfl)) ?_
  refine sq_grd rfl rfl (guard_f rfl rfl rfl) (fun hc => w_callT 0 rfl rfl Tryd.call62 rfl (itoa_spec (atoiV s) (atoiV_rng s)) (evl_cons (ev_whn rfl hc) evl_nil) (by first | exact fun _ h => h | exact fun _ h => h.1)) ?_
  refine sq_grd rfl rfl (guard_f rfl rfl rfl) (fun hc => w_move rfl (ev_tmp rfl)) ?_
  refine sq_grd rfl rfl (guard_f rfl rfl rfl) (fun hc => w_sneq rfl (ev_whn rfl hc) (ev_whn rfl hc)) ?_
  refine sq_plain rfl rfl rfl (w_or rfl (ev_tmp rfl) (evif_w rfl)) ?_
  refine sq_nil ?_
  refine awp_cond (ev_tmp rfl) ?_ ?_
  · intro h29
    have he : readI s lo hi = (0, false) := if_pos h29
    rw [he]
    refine awp_seq ?_
    refine awp_region ?_
    refine sq_plain rfl rfl rfl (w_assign rfl ev_ci) ?_
    refine sq_plain rfl rfl rfl (w_assign rfl ev_cb) ?_
    refine sq_nil ?_
    refine awp_ret ?_
    exact retN rfl (by decide) (rv_cons (rv_tmp' rfl (by rfl)) (rv_cons (rv_tmp' rfl (by rfl)) rv_nil))
  · intro h29
    have he : readI s lo hi = (atoiV s, true) := if_neg (by rw [h29]; decide)
    rw [he]
    refine awp_skip ?_
    refine awp_seq ?_
    refine awp_region ?_
    refine sq_plain rfl rfl rfl (w_move rfl (ev_tmp rfl)) ?_
    refine sq_plain rfl rfl rfl (w_assign rfl (ev_tmp rfl)) ?_
    refine sq_plain rfl rfl rfl (w_assign rfl ev_cb) ?_
    refine sq_nil ?_
    refine awp_ret ?_
    exact retN rfl (by decide) (rv_cons (rv_tmp' rfl (by rfl)) (rv_cons (rv_tmp' rfl (by rfl)) rv_nil))
theorem l1Read_nil : FSpec Tryd.prog 42 [AV.str []] (AV.int (l1R [])) := by
  refine spec_of_awp Tryd.func42 rfl Tryd.ntmps42 rfl ?_
  refine awp_seq ?_
  refine awp_region ?_
  refine sq_plain rfl rfl rfl (w_assign rfl ev_ci) ?_
  refine sq_nil ?_
  refine awp_seq ?_
  refine awp_seq ?_
  refine awp_region ?_
  refine sq_plain rfl rfl rfl (w_move rfl (ev_tmp rfl)) ?_
  refine sq_plain rfl rfl rfl (w_slen rfl Tryd.underlying9 (ev_tmp rfl)) ?_
  refine sq_plain rfl rfl rfl (w_call rfl Tryd.call55 rfl (l1In_spec _ _ _) (evl_cons (ev_tmp rfl) (evl_cons ev_ci (evl_cons ev_ci evl_nil)))) ?_
  refine sq_plain rfl rfl rfl (w_not rfl (ev_tmp rfl)) ?_
  refine sq_plain rfl rfl rfl (w_move rfl (ev_tmp rfl)) ?_
  refine sq_grd rfl rfl (guard_f rfl rfl rfl) (fun hc => w_move rfl (ev_tmp rfl)) ?_
  refine sq_grd rfl rfl (guard_f rfl rfl rfl) (fun hc => (show OpW _ _ _ _ _ _ (AV.byte 0) from (by exfalso; revert hc; decide))) ?_
  refine sq_grd rfl rfl (guard_f rfl rfl rfl) (fun hc => w_eql rfl (ev_whn rfl hc) ev_ci) ?_
  refine sq_grd rfl rfl (guard_f rfl rfl rfl) (fun hc => w_move rfl (ev_whn rfl hc)) ?_
  refine sq_grd rfl rfl (guard_wt rfl rfl rfl) (fun hc => w_move rfl (ev_tmp rfl)) ?_
  refine sq_grd rfl rfl (guard_wt rfl rfl rfl) (fun hc => w_slen rfl Tryd.underlying9 (ev_whn rfl hc)) ?_
  refine sq_grd rfl rfl (guard_wt rfl rfl rfl) (fun hc => w_gtr rfl (ev_whn rfl hc) ev_ci) ?_
  refine sq_grd rfl rfl (guard_f rfl rfl rfl) (fun hc => w_and rfl (ev_whn rfl hc) (evif_w2 rfl hc)) ?_
  refine sq_plain rfl rfl rfl (w_or rfl (ev_tmp rfl) (evif_w rfl)) ?_
  refine sq_nil ?_
  refine awp_cond (ev_tmp rfl) ?_ ?_
  · intro h18
    refine awp_seq ?_
    refine awp_region ?_
    refine sq_plain rfl rfl rfl (w_assign rfl ev_ci) ?_
    refine sq_nil ?_
    refine awp_ret ?_
    exact retR rfl (rv_tmp' rfl (by rfl))
  · intro h18
    exfalso; revert h18; decide
theorem l1Read_cons (b : UInt8) (r : Str) (hs : (b :: r).length ≤ 1048576) : FSpec Tryd.prog 42 [AV.str (b :: r)] (AV.int (l1R (b :: r))) := by
  have hb0 : (b :: r)[0]? = some b := rfl
  obtain ⟨s, hse⟩ : ∃ s, b :: r = s := ⟨_, rfl⟩
  have hbad := bad_cons b r
  rw [hse] at hs hb0 hbad ⊢
  refine spec_of_awp Tryd.func42 rfl Tryd.ntmps42 rfl ?_
  refine awp_seq ?_
  refine awp_region ?_
  refine sq_plain rfl rfl rfl (w_assign rfl ev_ci) ?_
  refine sq_nil ?_
  refine awp_seq ?_
  refine awp_seq ?_
  refine awp_region ?_
  refine sq_plain rfl rfl rfl (w_move rfl (ev_tmp rfl)) ?_
  refine sq_plain rfl rfl rfl (w_slen rfl Tryd.underlying9 (ev_tmp rfl)) ?_
  refine sq_plain rfl rfl rfl (w_call rfl Tryd.call55 rfl (l1In_spec _ _ _) (evl_cons (ev_tmp rfl) (evl_cons ev_ci (evl_cons ev_ci evl_nil)))) ?_
  refine sq_plain rfl rfl rfl (w_not rfl (ev_tmp rfl)) ?_
  refine sq_plain rfl rfl rfl (w_move rfl (ev_tmp rfl)) ?_
  refine sq_grd rfl rfl (guard_f rfl rfl rfl) (fun hc => w_move rfl (ev_tmp rfl)) ?_
  refine sq_grd rfl rfl (guard_f rfl rfl rfl) (fun hc => w_sidx rfl Tryd.underlying9 (ev_whn rfl hc) ev_ci (by have := (List.getElem?_eq_some_iff.1 hb0).1; omega) hb0) ?_
  refine sq_grd rfl rfl (guard_f rfl rfl rfl) (fun hc => w_eql rfl (ev_whn rfl hc) ev_ci) ?_
  refine sq_grd rfl rfl (guard_f rfl rfl rfl) (fun hc => w_move rfl (ev_whn rfl hc)) ?_
  refine sq_grd rfl rfl (guard_wt rfl rfl rfl) (fun hc => w_move rfl (ev_tmp rfl)) ?_
  refine sq_grd rfl rfl (guard_wt rfl rfl rfl) (fun hc => w_slen rfl Tryd.underlying9 (ev_whn rfl hc)) ?_
  refine sq_grd rfl rfl (guard_wt rfl rfl rfl) (fun hc => w_gtr rfl (ev_whn rfl hc) ev_ci) ?_
  refine sq_grd rfl rfl (guard_f rfl rfl rfl) (fun hc => w_and rfl (ev_whn rfl hc) (evif_w2 rfl hc)) ?_
  refine sq_plain rfl rfl rfl (w_or rfl (ev_tmp rfl) (evif_w rfl)) ?_
  refine sq_nil ?_
  refine awp_cond (ev_tmp rfl) ?_ ?_
  · intro h18
    have he : l1R s = -1 := if_pos (by rw [hbad]; exact h18)
    rw [he]
    refine awp_seq ?_
    refine awp_region ?_
    refine sq_plain rfl rfl rfl (w_assign rfl ev_ci) ?_
    refine sq_nil ?_
    refine awp_ret ?_
    exact retR rfl (rv_tmp' rfl (by rfl))
  · intro h18
    have he : l1R s = rdFrom 0 s := if_neg (by rw [hbad, h18]; decide)
    rw [he]
    have hl6 : s.length ≤ 6 := (by simp only [Bool.or_eq_false_iff, Bool.not_eq_false'] at h18; have h9 := h18.1; unfold within at h9; simp at h9; omega)
    refine awp_skip ?_
    refine awp_seq ?_
    refine awp_region ?_
    refine sq_plain rfl rfl rfl (w_assign rfl ev_ci) ?_
    refine sq_nil ?_
    refine awp_seq ?_
    refine awp_seq ?_
    refine awp_region ?_
    refine sq_plain rfl rfl rfl (w_assign rfl ev_ci) ?_
    refine sq_nil ?_
    refine awp_block ?_
    refine awp_loop_i2 [(0, _)] _ (fun (i : Nat) (n : Nat) => i ≤ s.length ∧ rdFrom 0 s = rdFrom n (s.drop i) ∧ n + 1 ≤ 10 ^ i) (fun (i : Nat) (n : Nat) => []) (fun (i : Nat) (n : Nat) => [(3, AV.int n), (4, AV.int i)]) (fun (i : Nat) (n : Nat) => s.length - i) (0) (0) ?_ (le_env ⟨rfl, rfl, rfl, trivial⟩) ?_
    · exact ⟨Nat.zero_le _, rfl, by decide⟩
    intro i n hinv
    have hp6 := pow6 (i := i) (by omega)
    have hn6 := hinv.2.2
    refine awp_seq ?_
    refine awp_seq ?_
    refine awp_region ?_
    refine sq_plain rfl rfl rfl (w_move rfl (ev_tmp rfl)) ?_
    refine sq_plain rfl rfl rfl (w_move rfl (ev_tmp rfl)) ?_
    refine sq_plain rfl rfl rfl (w_slen rfl Tryd.underlying9 (ev_tmp rfl)) ?_
    refine sq_plain rfl rfl rfl (w_lss rfl (ev_tmp rfl) (ev_tmp rfl)) ?_
    refine sq_nil ?_
    refine awp_cond (ev_tmp rfl) ?_ ?_
    · intro h22
      have k22 := of_decide_eq_true h22; try simp only [List.length_map] at k22
      obtain ⟨x, hx⟩ := get_some (show i < s.length by omega)
      refine awp_skip ?_
      refine awp_seq ?_
      refine awp_block ?_
      refine awp_seq ?_
      refine awp_seq ?_
      refine awp_region ?_
      refine sq_plain rfl rfl rfl (w_move rfl (ev_tmp rfl)) ?_
      refine sq_plain rfl rfl rfl (w_move rfl (ev_tmp rfl)) ?_
      refine sq_plain rfl rfl rfl (w_sidx rfl Tryd.underlying9 (ev_tmp rfl) (ev_tmp rfl) (by omega) hx) ?_
      refine sq_plain rfl rfl rfl (w_lss rfl (ev_tmp rfl) ev_ci) ?_
      refine sq_plain rfl rfl rfl (w_move rfl (ev_tmp rfl)) ?_
      refine sq_grd rfl rfl (guard_f rfl rfl rfl) (fun hc => w_move rfl (ev_tmp rfl)) ?_
      refine sq_grd rfl rfl (guard_f rfl rfl rfl) (fun hc => w_move rfl (ev_tmp rfl)) ?_
      refine sq_grd rfl rfl (guard_f rfl rfl rfl) (fun hc => w_sidx rfl Tryd.underlying9 (ev_whn rfl hc) (ev_whn rfl hc) (by omega) hx) ?_
      refine sq_grd rfl rfl (guard_f rfl rfl rfl) (fun hc => w_gtr rfl (ev_whn rfl hc) ev_ci) ?_
      refine sq_plain rfl rfl rfl (w_or rfl (ev_tmp rfl) (evif_w rfl)) ?_
      refine sq_nil ?_
      refine awp_cond (ev_tmp rfl) ?_ ?_
      · intro h34
        have hst := rd_stop (n := n) hx (by simp only [Bool.or_eq_true, decide_eq_true_eq] at h34; omega)
        rw [hinv.2.1, hst]
        refine awp_seq ?_
        refine awp_region ?_
        refine sq_plain rfl rfl rfl (w_assign rfl ev_ci) ?_
        refine sq_nil ?_
        refine awp_ret ?_
        exact retR rfl (rv_tmp' rfl (by rfl))
      · intro h34
        have hdig : 48 ≤ x.toNat ∧ x.toNat ≤ 57 := (by simp only [Bool.or_eq_false_iff, decide_eq_false_iff_not] at h34; omega)
        refine awp_skip ?_
        refine awp_region ?_
        refine sq_plain rfl rfl rfl (w_move rfl (ev_tmp rfl)) ?_
        refine sq_plain rfl rfl rfl (w_muli rfl ev_ci (ev_tmp rfl) (by first | omega | ((try simp only [List.length_map, List.length_take, List.length_cons, List.length_nil, chunks_len, szR] at *); omega) | (have hc2 := hc; simp only [Bool.and_eq_true, Bool.or_eq_true, Bool.or_eq_false_iff, Bool.and_eq_false_iff, Bool.not_eq_true', Bool.not_eq_false', decide_eq_true_eq, decide_eq_false_iff_not, beq_iff_eq, bne_iff_ne, List.length_map, List.length_take] at hc2; omega))) ?_
        refine sq_plain rfl rfl rfl (w_move rfl (ev_tmp rfl)) ?_
        refine sq_plain rfl rfl rfl (w_move rfl (ev_tmp rfl)) ?_
        refine sq_plain rfl rfl rfl (w_sidx rfl Tryd.underlying9 (ev_tmp rfl) (ev_tmp rfl) (by omega) hx) ?_
        refine sq_plain rfl rfl rfl (w_sub rfl (ev_tmp rfl) ev_ci) ?_
        refine sq_plain rfl rfl rfl (w_conv rfl (by kernel_rfl) Tryd.underlying3 (ev_tmp rfl)) ?_
        rw [dig_val hdig]
        refine sq_plain rfl rfl rfl (w_addi rfl (ev_tmp rfl) (ev_tmp rfl) (by first | omega | ((try simp only [List.length_map, List.length_take, List.length_cons, List.length_nil, chunks_len, szR] at *); omega) | (have hc2 := hc; simp only [Bool.and_eq_true, Bool.or_eq_true, Bool.or_eq_false_iff, Bool.and_eq_false_iff, Bool.not_eq_true', Bool.not_eq_false', decide_eq_true_eq, decide_eq_false_iff_not, beq_iff_eq, bne_iff_ne, List.length_map, List.length_take] at hc2; omega))) ?_
        refine sq_plain rfl rfl rfl (w_assign rfl (ev_tmp rfl)) ?_
        refine sq_nil ?_
        refine awp_region ?_
        refine sq_plain rfl rfl rfl (w_move rfl (ev_tmp rfl)) ?_
        refine sq_plain rfl rfl rfl (w_addi rfl (ev_tmp rfl) ev_ci (by first | omega | ((try simp only [List.length_map, List.length_take, List.length_cons, List.length_nil, chunks_len, szR] at *); omega) | (have hc2 := hc; simp only [Bool.and_eq_true, Bool.or_eq_true, Bool.or_eq_false_iff, Bool.and_eq_false_iff, Bool.not_eq_true', Bool.not_eq_false', decide_eq_true_eq, decide_eq_false_iff_not, beq_iff_eq, bne_iff_ne, List.length_map, List.length_take] at hc2; omega))) ?_
        refine sq_plain rfl rfl rfl (w_assign rfl (ev_tmp rfl)) ?_
        refine sq_nil ?_
        refine round_end2 i n (i + 1) (10 * n + (x.toNat - 48)) ?_ ?_ (le_env ⟨congrArg (fun z => some (AV.int z)) (by omega), rfl, rfl, trivial⟩)
        · exact ⟨by omega, hinv.2.1.trans (rd_next hx hdig), pow_nx hinv.2.2 (by omega)⟩
        · omega
    · intro h22
      have k22 := of_decide_eq_false h22; try simp only [List.length_map] at k22
      have hend : rdFrom 0 s = (n : Int) := (by rw [hinv.2.1, List.drop_of_length_le (by omega)]; rfl)
      rw [hend]
      refine awp_exit ?_
      refine awp_seq ?_
      refine awp_region ?_
      refine sq_plain rfl rfl rfl (w_move rfl (ev_tmp rfl)) ?_
      refine sq_plain rfl rfl rfl (w_assign rfl (ev_tmp rfl)) ?_
      refine sq_nil ?_
      refine awp_ret ?_
      exact retR rfl (rv_tmp' rfl (by rfl))
theorem l1Read_spec (s : Str) (hs : s.length ≤ 1048576) : FSpec Tryd.prog 42 [AV.str s] (AV.int (l1R s)) := by
  cases s with
  | nil => exact l1Read_nil
  | cons b r => exact l1Read_cons b r hs
theorem l1Split_spec (s : Str) (c : UInt8) (hs : s.length ≤ 1048576) : FSpec Tryd.prog 41 [AV.str s, AV.ik .u8 (c.toNat : Int)] (strs (splitC c s)) := by
  refine spec_of_awp Tryd.func41 rfl Tryd.ntmps41 rfl ?_
  refine awp_seq ?_
  refine awp_region ?_
  refine sq_plain rfl rfl rfl (w_assign rfl (ev_cnil (sz := 1))) ?_
  refine sq_nil ?_
  refine awp_seq ?_
  refine awp_region ?_
  refine sq_nilarr 9 1 rfl rfl rfl rfl ev_cnils ?_
  intro v5
  refine sq_nil ?_
  refine awp_seq ?_
  refine awp_region ?_
  refine sq_plain rfl rfl rfl (w_assign rfl ev_ci) ?_
  refine sq_nil ?_
  refine awp_seq ?_
  refine awp_seq ?_
  refine awp_region ?_
  refine sq_plain rfl rfl rfl (w_assign rfl ev_ci) ?_
  refine sq_nil ?_
  refine awp_block ?_
  refine awp_loop_i4 [(0, _), (1, _), (4, _)] _ (fun (i : Nat) (fr : Nat) (acc : List Str) (v : Value) => SpOk c s acc fr i) (fun (i : Nat) (fr : Nat) (acc : List Str) (v : Value) => [.arr v 9 1 (acc.map fun t => [AV.str t])]) (fun (i : Nat) (fr : Nat) (acc : List Str) (v : Value) => [(5, AV.is v), (6, AV.int fr), (7, AV.int i)]) (fun (i : Nat) (fr : Nat) (acc : List Str) (v : Value) => s.length - i) (0) (0) ([]) (v5) ?_ (le_eq (by rfl) ⟨rfl, rfl, rfl, rfl, rfl, rfl, trivial⟩) ?_
  · exact spOk_start c s
  intro i fr acc v hinv
  have hk1 := hinv.2.1
  have hk2 := hinv.2.2.1
  have hk3 := hinv.2.2.2
  refine awp_seq ?_
  refine awp_seq ?_
  refine awp_region ?_
  refine sq_plain rfl rfl rfl (w_move rfl (ev_tmp rfl)) ?_
  refine sq_plain rfl rfl rfl (w_move rfl (ev_tmp rfl)) ?_
  refine sq_plain rfl rfl rfl (w_slen rfl Tryd.underlying9 (ev_tmp rfl)) ?_
  refine sq_plain rfl rfl rfl (w_lss rfl (ev_tmp rfl) (ev_tmp rfl)) ?_
  refine sq_nil ?_
  refine awp_cond (ev_tmp rfl) ?_ ?_
  · intro h11
    have k11 := of_decide_eq_true h11; try simp only [List.length_map] at k11
    obtain ⟨x, hx⟩ := get_some (show i < s.length by omega)
    refine awp_skip ?_
    refine awp_seq ?_
    refine awp_block ?_
    refine awp_seq ?_
    refine awp_region ?_
    refine sq_plain rfl rfl rfl (w_move rfl (ev_tmp rfl)) ?_
    refine sq_plain rfl rfl rfl (w_move rfl (ev_tmp rfl)) ?_
    refine sq_plain rfl rfl rfl (w_sidx rfl Tryd.underlying9 (ev_tmp rfl) (ev_tmp rfl) (by omega) hx) ?_
    refine sq_plain rfl rfl rfl (w_move rfl (ev_tmp rfl)) ?_
    refine sq_plain rfl rfl rfl (w_eql rfl (ev_tmp rfl) (ev_tmp rfl)) ?_
    refine sq_nil ?_
    refine awp_cond (ev_tmp rfl) ?_ ?_
    · intro h18
      have k18 := eq_of_beqt h18; try simp only [List.length_map] at k18
      have hxc : s[i]? = some c := (by rw [hx]; congr 1; exact UInt8.toNat_inj.1 (by omega))
      refine awp_seq ?_
      refine awp_region ?_
      refine sq_plain rfl rfl rfl (w_move rfl (ev_tmp rfl)) ?_
      refine sq_plain rfl rfl rfl (w_move rfl (ev_tmp rfl)) ?_
      refine sq_plain rfl rfl rfl (w_move rfl (ev_tmp rfl)) ?_
      refine sq_plain rfl rfl rfl (w_move rfl (ev_tmp rfl)) ?_
      refine sq_plain rfl rfl rfl (w_ssl_lohi rfl Tryd.underlying9 (ev_tmp rfl) (ev_tmp rfl) (ev_tmp rfl) (by first | omega | ((try simp only [List.length_map, List.length_take, List.length_cons, List.length_nil, chunks_len, szR] at *); omega) | (have hc2 := hc; simp only [Bool.and_eq_true, Bool.or_eq_true, Bool.or_eq_false_iff, Bool.and_eq_false_iff, Bool.not_eq_true', Bool.not_eq_false', decide_eq_true_eq, decide_eq_false_iff_not, beq_iff_eq, bne_iff_ne, List.length_map, List.length_take] at hc2; omega)) (by first | omega | ((try simp only [List.length_map, List.length_take, List.length_cons, List.length_nil, chunks_len, szR] at *); omega) | (have hc2 := hc; simp only [Bool.and_eq_true, Bool.or_eq_true, Bool.or_eq_false_iff, Bool.and_eq_false_iff, Bool.not_eq_true', Bool.not_eq_false', decide_eq_true_eq, decide_eq_false_iff_not, beq_iff_eq, bne_iff_ne, List.length_map, List.length_take] at hc2; omega)) (by first | omega | ((try simp only [List.length_map, List.length_take, List.length_cons, List.length_nil, chunks_len, szR] at *); omega) | (have hc2 := hc; simp only [Bool.and_eq_true, Bool.or_eq_true, Bool.or_eq_false_iff, Bool.and_eq_false_iff, Bool.not_eq_true', Bool.not_eq_false', decide_eq_true_eq, decide_eq_false_iff_not, beq_iff_eq, bne_iff_ne, List.length_map, List.length_take] at hc2; omega))) ?_
      refine sq_plain rfl rfl rfl (w_bslice rfl Tryd.underlying30 Tryd.sizeOf9 Tryd.zeroValue9 rfl rfl rfl rfl (bp_cons (ev_tmp rfl) (as_str _) bp_nil) rfl rfl) ?_
      refine sq_append (by' := 16) 0 rfl rfl rfl rfl Tryd.underlying30 Tryd.type9 rfl rfl rfl rfl rfl rfl (ev_tmp rfl) (ev_tmp rfl) rfl (by first | omega | ((try simp only [List.length_map, List.length_take, List.length_cons, List.length_nil, chunks_len, szR] at *); omega) | (have hc2 := hc; simp only [Bool.and_eq_true, Bool.or_eq_true, Bool.or_eq_false_iff, Bool.and_eq_false_iff, Bool.not_eq_true', Bool.not_eq_false', decide_eq_true_eq, decide_eq_false_iff_not, beq_iff_eq, bne_iff_ne, List.length_map, List.length_take] at hc2; omega)) ?_
      intro v25_1
      refine sq_plain rfl rfl rfl (w_assign rfl (ev_tmp rfl)) ?_
      refine sq_nil ?_
      refine awp_region ?_
      refine sq_plain rfl rfl rfl (w_move rfl (ev_tmp rfl)) ?_
      refine sq_plain rfl rfl rfl (w_addi rfl (ev_tmp rfl) ev_ci (by first | omega | ((try simp only [List.length_map, List.length_take, List.length_cons, List.length_nil, chunks_len, szR] at *); omega) | (have hc2 := hc; simp only [Bool.and_eq_true, Bool.or_eq_true, Bool.or_eq_false_iff, Bool.and_eq_false_iff, Bool.not_eq_true', Bool.not_eq_false', decide_eq_true_eq, decide_eq_false_iff_not, beq_iff_eq, bne_iff_ne, List.length_map, List.length_take] at hc2; omega))) ?_
      refine sq_plain rfl rfl rfl (w_assign rfl (ev_tmp rfl)) ?_
      refine sq_nil ?_
      refine awp_region ?_
      refine sq_plain rfl rfl rfl (w_move rfl (ev_tmp rfl)) ?_
      refine sq_plain rfl rfl rfl (w_addi rfl (ev_tmp rfl) ev_ci (by first | omega | ((try simp only [List.length_map, List.length_take, List.length_cons, List.length_nil, chunks_len, szR] at *); omega) | (have hc2 := hc; simp only [Bool.and_eq_true, Bool.or_eq_true, Bool.or_eq_false_iff, Bool.and_eq_false_iff, Bool.not_eq_true', Bool.not_eq_false', decide_eq_true_eq, decide_eq_false_iff_not, beq_iff_eq, bne_iff_ne, List.length_map, List.length_take] at hc2; omega))) ?_
      refine sq_plain rfl rfl rfl (w_assign rfl (ev_tmp rfl)) ?_
      refine sq_nil ?_
      refine round_end4 i fr acc v (i + 1) (i + 1) (acc ++ [(s.take i).drop fr]) (v25_1) ?_ ?_ (le_eq (by first | rfl | (rw [List.map_append]; rfl)) ⟨rfl, rfl, rfl, rfl, rfl, rfl, trivial⟩)
      · exact spOk_hit hinv hxc
      · omega
    · intro h18
      have k18 := ne_of_beqf h18; try simp only [List.length_map] at k18
      have hxc : x ≠ c := (by intro e; subst e; simp at h18)
      refine awp_skip ?_
      refine awp_region ?_
      refine sq_plain rfl rfl rfl (w_move rfl (ev_tmp rfl)) ?_
      refine sq_plain rfl rfl rfl (w_addi rfl (ev_tmp rfl) ev_ci (by first | omega | ((try simp only [List.length_map, List.length_take, List.length_cons, List.length_nil, chunks_len, szR] at *); omega) | (have hc2 := hc; simp only [Bool.and_eq_true, Bool.or_eq_true, Bool.or_eq_false_iff, Bool.and_eq_false_iff, Bool.not_eq_true', Bool.not_eq_false', decide_eq_true_eq, decide_eq_false_iff_not, beq_iff_eq, bne_iff_ne, List.length_map, List.length_take] at hc2; omega))) ?_
      refine sq_plain rfl rfl rfl (w_assign rfl (ev_tmp rfl)) ?_
      refine sq_nil ?_
      refine round_end4 i fr acc v (i + 1) (fr) (acc) (v) ?_ ?_ (le_eq (by first | rfl | (rw [List.map_append]; rfl)) ⟨rfl, rfl, rfl, rfl, rfl, rfl, trivial⟩)
      · exact spOk_miss hinv hx hxc
      · omega
  · intro h11
    have k11 := of_decide_eq_false h11; try simp only [List.length_map] at k11
    have hend := spOk_end hinv (by omega)
    rw [hend]
    refine awp_exit ?_
    refine awp_seq ?_
    refine awp_region ?_
    refine sq_plain rfl rfl rfl (w_move rfl (ev_tmp rfl)) ?_
    refine sq_plain rfl rfl rfl (w_move rfl (ev_tmp rfl)) ?_
    refine sq_plain rfl rfl rfl (w_move rfl (ev_tmp rfl)) ?_
    refine sq_plain rfl rfl rfl (w_ssl_lo rfl Tryd.underlying9 (ev_tmp rfl) (ev_tmp rfl) (by first | omega | ((try simp only [List.length_map, List.length_take, List.length_cons, List.length_nil, chunks_len, szR] at *); omega) | (have hc2 := hc; simp only [Bool.and_eq_true, Bool.or_eq_true, Bool.or_eq_false_iff, Bool.and_eq_false_iff, Bool.not_eq_true', Bool.not_eq_false', decide_eq_true_eq, decide_eq_false_iff_not, beq_iff_eq, bne_iff_ne, List.length_map, List.length_take] at hc2; omega)) (by first | omega | ((try simp only [List.length_map, List.length_take, List.length_cons, List.length_nil, chunks_len, szR] at *); omega) | (have hc2 := hc; simp only [Bool.and_eq_true, Bool.or_eq_true, Bool.or_eq_false_iff, Bool.and_eq_false_iff, Bool.not_eq_true', Bool.not_eq_false', decide_eq_true_eq, decide_eq_false_iff_not, beq_iff_eq, bne_iff_ne, List.length_map, List.length_take] at hc2; omega))) ?_
    refine sq_plain rfl rfl rfl (w_bslice rfl Tryd.underlying30 Tryd.sizeOf9 Tryd.zeroValue9 rfl rfl rfl rfl (bp_cons (ev_tmp rfl) (as_str _) bp_nil) rfl rfl) ?_
    refine sq_append (by' := 16) 0 rfl rfl rfl rfl Tryd.underlying30 Tryd.type9 rfl rfl rfl rfl rfl rfl (ev_tmp rfl) (ev_tmp rfl) rfl (by first | omega | ((try simp only [List.length_map, List.length_take, List.length_cons, List.length_nil, chunks_len, szR] at *); omega) | (have hc2 := hc; simp only [Bool.and_eq_true, Bool.or_eq_true, Bool.or_eq_false_iff, Bool.and_eq_false_iff, Bool.not_eq_true', Bool.not_eq_false', decide_eq_true_eq, decide_eq_false_iff_not, beq_iff_eq, bne_iff_ne, List.length_map, List.length_take] at hc2; omega)) ?_
    intro v33_2
    refine sq_plain rfl rfl rfl (w_assign rfl (ev_tmp rfl)) ?_
    refine sq_nil ?_
    refine awp_ret ?_
    refine ret_seal 0 4 rfl rfl ?_
    exact retR rfl (rv_tmp' rfl (by first | rfl | (unfold strs; rw [List.map_append]; rfl)))
end Go.Proofs.YtdgoejkijpllpaaDoor

set_option linter.unusedVariables false
set_option linter.unusedSimpArgs false
set_option maxRecDepth 100000
set_option maxHeartbeats 1000000
namespace Go.M
open Go.AV
theorem three_of {l : List Str} (h : l.length = 3) : ∃ a b k, l = [a, b, k] := by
  match l, h with
  | [a, b, k], _ => exact ⟨a, b, k, rfl⟩
theorem two_of {l : List Str} (h : l.length = 2) : ∃ a b, l = [a, b] := by
  match l, h with
  | [a, b], _ => exact ⟨a, b, rfl⟩
theorem get2 {l : List Str} (h : l.length = 3) : l[2]? = some ((l[2]?).getD []) := by
  obtain ⟨a, b, k, rfl⟩ := three_of h; rfl
theorem parseF_not {s : Str} (h : (splitC 32 s).length ≠ 3) : parseF s = (emptyF, false) := by
  unfold parseF
  split
  · rename_i e; rw [e] at h; exact absurd rfl h
  · rfl
theorem parseF_three {s a b k : Str} (h : splitC 32 s = [a, b, k]) : parseF s = parse3 s a b k := by unfold parseF; rw [h]
theorem parseFS_not {s : Str} (h : (splitC 32 s).length ≠ 3) : parseFS s = (emptyF, false) := by
  unfold parseFS
  split
  · rename_i e; rw [e] at h; exact absurd rfl h
  · rfl
theorem parseFS_three {s a b k : Str} (h : splitC 32 s = [a, b, k]) : parseFS s = if k.length < 2 then (emptyF, false) else parse3S s a b k := by unfold parseFS; rw [h]
theorem itemS_two {a b k x y : Str} (h : splitC 61 k = [x, y]) : itemS a b k = ⟨l1R a, l1R b, x, y, false⟩ := by unfold itemS; rw [h]
theorem itemS_not {a b k : Str} (h : (splitC 61 k).length ≠ 2) : itemS a b k = ⟨l1R a, l1R b, k.take (k.length - 1), [], true⟩ := by
  unfold itemS
  split
  · rename_i e; rw [e] at h; exact absurd rfl h
  · rfl
theorem splitC_sum {c : UInt8} : ∀ s : Str, ((splitC c s).map List.length).sum ≤ s.length
  | [] => by simp [splitC]
  | b :: s => by
    have ih := splitC_sum (c := c) s
    rw [splitC_cons]
    split
    · simp; omega
    · cases hs : splitC c s with
      | nil => exact absurd hs (splitC_ne c s)
      | cons w ws =>
        rw [hs] at ih
        simp [addP] at ih ⊢
        omega
theorem split2_len {c : UInt8} {k x y : Str} (h : splitC c k = [x, y]) : x.length + y.length ≤ k.length := by
  have h1 := splitC_sum (c := c) k
  rw [h] at h1
  simp at h1
  omega
end Go.M
namespace Go.Proofs.YtdgoejkijpllpaaDoor
open Go Go.AV Go.M
attribute [local irreducible] OpW OpA OpS AWP FSpec ESpec GSpec OpE RetOk RetOkG RvDen Le Ev GuardIs SrcIs Int.tmod Int.tdiv IntKind.wrap
theorem readFeedLine_spec (s : Str) (hs : s.length ≤ 1048576) : FSpec Tryd.prog 18 [AV.wt readW (AV.str s)] (AV.tup [AV.agg (parseF s).1.cs, AV.bool (parseF s).2]) := by
  refine spec_of_awp Tryd.func18 rfl Tryd.ntmps18 rfl ?_
  refine AWP.le (le_tab (t := 0) rfl) ?_
  refine awp_seq ?_
  refine awp_region ?_
  refine sq_alloc rfl rfl rfl rfl Tryd.zeroValue27 rfl ?_
  intro b2
  refine sq_plain rfl rfl rfl (w_assign rfl ev_cb) ?_
  refine sq_nil ?_
  refine awp_seq ?_
  refine awp_region ?_
  refine sq_plain rfl rfl rfl (w_move rfl (ev_tmp rfl)) ?_
  refine sq_plain rfl rfl rfl (w_callT 1 rfl rfl Tryd.call43 rfl (split_spec s 32 hs) (evl_cons (ev_tmp rfl) (evl_cons (ev_cs' (l := [32]) rfl) evl_nil)) (by first | exact fun _ h => h | exact fun _ h => h.1)) ?_
  refine sq_plain rfl rfl rfl (w_assign rfl (ev_tmp rfl)) ?_
  refine sq_nil ?_
  refine awp_seq ?_
  refine awp_seq ?_
  refine awp_region ?_
  refine sq_plain rfl rfl rfl (w_move rfl (ev_tmp rfl)) ?_
  refine sq_plain rfl rfl rfl (w_llen rfl Tryd.underlying30 (ev_tmp rfl)) ?_
  refine sq_plain rfl rfl rfl (w_neq rfl (ev_tmp rfl) ev_ci) ?_
  refine sq_nil ?_
  refine awp_cond (ev_tmp rfl) ?_ ?_
  · intro h17
    have k17 := ne_of_bne h17; try simp only [List.length_map] at k17
    have he := parseF_not (s := s) (by omega)
    rw [he]
    refine awp_seq ?_
    refine awp_region ?_
    refine sq_plain rfl rfl rfl (w_build (places := #[(0, 1), (1, 1), (2, 1), (3, 1), (4, 1)]) rfl Tryd.underlying27 Tryd.zeroValue27 (fun w => by kernel_rfl) rfl bp_nil rfl) ?_
    refine sq_storeB0 0 rfl rfl rfl (ev_tmp rfl) (ev_tmp rfl) (as_agg _) rfl Tryd.sizeOf27 rfl ?_
    refine sq_plain rfl rfl rfl (w_assign rfl ev_cb) ?_
    refine sq_nil ?_
    refine awp_ret ?_
    exact retN rfl (by decide) (rv_cons (rv_cell (ys := _) 0 rfl rfl Tryd.isAgg27 Tryd.sizeOf27 rfl) (rv_cons (rv_tmp' rfl (by rfl)) rv_nil))
  · intro h17
    have k17 := eq_of_bne_false h17; try simp only [List.length_map] at k17
    obtain ⟨a, b, k, hw⟩ := three_of (l := splitC 32 s) (by omega)
    have he := parseF_three hw
    rw [he, hw]
    have hla : a.length ≤ s.length := splitC_len (c := 32) (by rw [hw]; exact List.mem_cons_self)
    have hlb : b.length ≤ s.length := splitC_len (c := 32) (by rw [hw]; exact List.mem_cons_of_mem _ List.mem_cons_self)
    have hlk : k.length ≤ s.length := splitC_len (c := 32) (by rw [hw]; exact List.mem_cons_of_mem _ (List.mem_cons_of_mem _ List.mem_cons_self))
    have hsz := itemOf_size (a := a) (b := b) (k := k)
    have hcl := cutL_len k 61
    refine awp_skip ?_
    refine awp_seq ?_
    refine awp_region ?_
    refine sq_plain rfl rfl rfl (w_move rfl (ev_tmp rfl)) ?_
    refine sq_plain rfl rfl rfl (w_idxm rfl Tryd.underlying30 Tryd.sizeOf9 (ev_tmp rfl) ev_ci (show [a, b, k][0]? = some a from rfl) (by first | omega | ((try simp only [List.length_map, List.length_take, List.length_cons, List.length_nil, chunks_len, szR] at *); omega) | (have hc2 := hc; simp only [Bool.and_eq_true, Bool.or_eq_true, Bool.or_eq_false_iff, Bool.and_eq_false_iff, Bool.not_eq_true', Bool.not_eq_false', decide_eq_true_eq, decide_eq_false_iff_not, beq_iff_eq, bne_iff_ne, List.length_map, List.length_take] at hc2; omega))) ?_
    refine sq_plain rfl rfl rfl (w_loadE1 rfl (ev_tmp rfl) Tryd.isAgg9 rfl) ?_
    refine sq_plain rfl rfl rfl (w_callT 1 rfl rfl Tryd.call44 rfl (readInt_spec a 1 100000 (by omega)) (evl_cons (ev_tmp rfl) (evl_cons ev_ci (evl_cons ev_ci evl_nil))) (by first | exact fun _ h => h | exact fun _ h => h.1)) ?_
    refine sq_plain rfl rfl rfl (w_move rfl (ev_tmp rfl)) ?_
    refine sq_plain rfl rfl rfl (w_extract rfl (ev_tmp rfl) rfl) ?_
    refine sq_plain rfl rfl rfl (w_extract rfl (ev_tmp rfl) rfl) ?_
    refine sq_plain rfl rfl rfl (w_assign rfl (ev_tmp rfl)) ?_
    refine sq_plain rfl rfl rfl (w_assign rfl (ev_tmp rfl)) ?_
    refine sq_nil ?_
    refine awp_seq ?_
    refine awp_region ?_
    refine sq_plain rfl rfl rfl (w_move rfl (ev_tmp rfl)) ?_
    refine sq_plain rfl rfl rfl (w_idxm rfl Tryd.underlying30 Tryd.sizeOf9 (ev_tmp rfl) ev_ci (show [a, b, k][1]? = some b from rfl) (by first | omega | ((try simp only [List.length_map, List.length_take, List.length_cons, List.length_nil, chunks_len, szR] at *); omega) | (have hc2 := hc; simp only [Bool.and_eq_true, Bool.or_eq_true, Bool.or_eq_false_iff, Bool.and_eq_false_iff, Bool.not_eq_true', Bool.not_eq_false', decide_eq_true_eq, decide_eq_false_iff_not, beq_iff_eq, bne_iff_ne, List.length_map, List.length_take] at hc2; omega))) ?_
    refine sq_plain rfl rfl rfl (w_loadE1 rfl (ev_tmp rfl) Tryd.isAgg9 rfl) ?_
    refine sq_plain rfl rfl rfl (w_callT 1 rfl rfl Tryd.call44 rfl (readInt_spec b 0 3 (by omega)) (evl_cons (ev_tmp rfl) (evl_cons ev_ci (evl_cons ev_ci evl_nil))) (by first | exact fun _ h => h | exact fun _ h => h.1)) ?_
    refine sq_plain rfl rfl rfl (w_move rfl (ev_tmp rfl)) ?_
    refine sq_plain rfl rfl rfl (w_extract rfl (ev_tmp rfl) rfl) ?_
    refine sq_plain rfl rfl rfl (w_extract rfl (ev_tmp rfl) rfl) ?_
    refine sq_plain rfl rfl rfl (w_assign rfl (ev_tmp rfl)) ?_
    refine sq_plain rfl rfl rfl (w_assign rfl (ev_tmp rfl)) ?_
    refine sq_nil ?_
    refine awp_seq ?_
    refine awp_region ?_
    refine sq_plain rfl rfl rfl (w_move rfl (ev_tmp rfl)) ?_
    refine sq_plain rfl rfl rfl (w_idxm rfl Tryd.underlying30 Tryd.sizeOf9 (ev_tmp rfl) ev_ci (show [a, b, k][2]? = some k from rfl) (by first | omega | ((try simp only [List.length_map, List.length_take, List.length_cons, List.length_nil, chunks_len, szR] at *); omega) | (have hc2 := hc; simp only [Bool.and_eq_true, Bool.or_eq_true, Bool.or_eq_false_iff, Bool.and_eq_false_iff, Bool.not_eq_true', Bool.not_eq_false', decide_eq_true_eq, decide_eq_false_iff_not, beq_iff_eq, bne_iff_ne, List.length_map, List.length_take] at hc2; omega))) ?_
    refine sq_plain rfl rfl rfl (w_loadE1 rfl (ev_tmp rfl) Tryd.isAgg9 rfl) ?_
    refine sq_plain rfl rfl rfl (w_callT 1 rfl rfl Tryd.call45 rfl (cut_spec k 61 (by omega)) (evl_cons (ev_tmp rfl) (evl_cons (ev_cs' (l := [61]) rfl) evl_nil)) (by first | exact fun _ h => h | exact fun _ h => h.1)) ?_
    refine sq_plain rfl rfl rfl (w_move rfl (ev_tmp rfl)) ?_
    refine sq_plain rfl rfl rfl (w_extract rfl (ev_tmp rfl) rfl) ?_
    refine sq_plain rfl rfl rfl (w_extract rfl (ev_tmp rfl) rfl) ?_
    refine sq_plain rfl rfl rfl (w_extract rfl (ev_tmp rfl) rfl) ?_
    refine sq_plain rfl rfl rfl (w_assign rfl (ev_tmp rfl)) ?_
    refine sq_plain rfl rfl rfl (w_assign rfl (ev_tmp rfl)) ?_
    refine sq_plain rfl rfl rfl (w_assign rfl (ev_tmp rfl)) ?_
    refine sq_nil ?_
    refine awp_seq ?_
    refine awp_region ?_
    refine sq_plain rfl rfl rfl (w_move rfl (ev_tmp rfl)) ?_
    refine sq_plain rfl rfl rfl (w_move rfl (ev_tmp rfl)) ?_
    refine sq_plain rfl rfl rfl (w_move rfl (ev_tmp rfl)) ?_
    refine sq_plain rfl rfl rfl (w_move rfl (ev_tmp rfl)) ?_
    refine sq_plain rfl rfl rfl (w_build (places := #[(0, 1), (1, 1), (2, 1), (3, 1), (4, 1)]) rfl Tryd.underlying27 Tryd.zeroValue27 (fun w => by kernel_rfl) rfl (bp_cons (ev_tmp rfl) (as_ik _ _) (bp_cons (ev_tmp rfl) (as_ik _ _) (bp_cons (ev_tmp rfl) (as_str _) (bp_cons (ev_tmp rfl) (as_str _) bp_nil)))) rfl) ?_
    refine sq_alloc rfl rfl rfl rfl Tryd.zeroValue27 rfl ?_
    intro b12
    refine sq_storeB0 0 rfl rfl rfl (ev_tmp rfl) (ev_tmp rfl) (as_agg _) rfl Tryd.sizeOf27 rfl ?_
    refine sq_nil ?_
    refine awp_seq ?_
    refine awp_seq ?_
    refine awp_region ?_
    refine sq_plain rfl rfl rfl (w_move rfl (ev_tmp rfl)) ?_
    refine sq_plain rfl rfl rfl (w_not rfl (ev_tmp rfl)) ?_
    refine sq_nil ?_
    refine awp_cond (ev_tmp rfl) ?_ ?_
    · intro h47
      have hi : itemOf a b k = ⟨(readI a 1 100000).1, (readI b 0 3).1, Lib.trimSuffix (Lib.cut k [61]).1 [33], (Lib.cut k [61]).2.1, true⟩ := if_pos h47
      rw [hi] at hsz
      refine awp_region ?_
      refine sq_plain rfl rfl rfl (w_move rfl (ev_tmp rfl)) ?_
      refine sq_plain rfl rfl rfl (w_call rfl Tryd.call46 rfl (trimSuffix_spec _ _ (by omega)) (evl_cons (ev_tmp rfl) (evl_cons (ev_cs' (l := [33]) rfl) evl_nil))) ?_
      refine sq_plain rfl rfl rfl (w_fldBn 2 rfl Tryd.underlying27 rfl Tryd.sizeOf9 (ev_tmp rfl) rfl) ?_
      refine sq_storeB1 0 rfl rfl rfl (ev_tmp rfl) (ev_tmp rfl) (as_str _) rfl Tryd.sizeOf9 rfl ?_
      refine sq_plain rfl rfl rfl (w_fldBn 4 rfl Tryd.underlying27 rfl Tryd.sizeOf4 (ev_tmp rfl) rfl) ?_
      refine sq_storeB1 0 rfl rfl rfl (ev_tmp rfl) ev_cb (as_bool _) rfl Tryd.sizeOf4 rfl ?_
      refine sq_nil ?_
      refine awp_seq ?_
      refine awp_seq ?_
      refine awp_region ?_
      refine sq_plain rfl rfl rfl (w_move rfl (ev_tmp rfl)) ?_
      refine sq_plain rfl rfl rfl (w_not rfl (ev_tmp rfl)) ?_
      refine sq_plain rfl rfl rfl (w_move rfl (ev_tmp rfl)) ?_
      refine sq_grd rfl rfl (guard_f rfl rfl rfl) (fun hc => w_move rfl (ev_tmp rfl)) ?_
      refine sq_grd rfl rfl (guard_f rfl rfl rfl) (fun hc => w_not rfl (ev_whn rfl hc)) ?_
      refine sq_plain rfl rfl rfl (w_or rfl (ev_tmp rfl) (evif_w rfl)) ?_
      refine sq_plain rfl rfl rfl (w_move rfl (ev_tmp rfl)) ?_
      refine sq_grd rfl rfl (guard_f rfl rfl rfl) (fun hc => w_loadA 0 rfl (ev_tmp rfl) rfl Tryd.isAgg27 Tryd.sizeOf27 rfl) ?_
      refine sq_grd rfl rfl (guard_f rfl rfl rfl) (fun hc => w_call rfl Tryd.call29 rfl ((by first | exact goodItem_spec ⟨(readI a 1 100000).1, (readI b 0 3).1, Lib.trimSuffix (Lib.cut k [61]).1 [33], (Lib.cut k [61]).2.1, true⟩ (by omega) | exact goodItem_spec ⟨(readI a 1 100000).1, (readI b 0 3).1, (Lib.cut k [61]).1, (Lib.cut k [61]).2.1, false⟩ (by omega))) (evl_cons (ev_whn rfl hc) evl_nil)) ?_
      refine sq_grd rfl rfl (guard_f rfl rfl rfl) (fun hc => w_not rfl (ev_whn rfl hc)) ?_
      refine sq_plain rfl rfl rfl (w_or rfl (ev_tmp rfl) (evif_w rfl)) ?_
      refine sq_plain rfl rfl rfl (w_move rfl (ev_tmp rfl)) ?_
      refine sq_grd rfl rfl (guard_f rfl rfl rfl) (fun hc => w_loadA 0 rfl (ev_tmp rfl) rfl Tryd.isAgg27 Tryd.sizeOf27 rfl) ?_
      refine sq_grd rfl rfl (guard_f rfl rfl rfl) (fun hc => w_callT 2 rfl rfl Tryd.call30 rfl ((by first | exact feedLine_spec ⟨(readI a 1 100000).1, (readI b 0 3).1, Lib.trimSuffix (Lib.cut k [61]).1 [33], (Lib.cut k [61]).2.1, true⟩ (by omega) (by simp only [Bool.not_eq_true', Bool.or_eq_false_iff, Bool.not_eq_false'] at hc; exact hc.2) | exact feedLine_spec ⟨(readI a 1 100000).1, (readI b 0 3).1, (Lib.cut k [61]).1, (Lib.cut k [61]).2.1, false⟩ (by omega) (by simp only [Bool.not_eq_true', Bool.or_eq_false_iff, Bool.not_eq_false'] at hc; exact hc.2))) (evl_cons (ev_whn rfl hc) evl_nil) (by first | exact fun _ h => h | exact fun _ h => h.1)) ?_
      refine sq_grd rfl rfl (guard_f rfl rfl rfl) (fun hc => w_move rfl (ev_tmp rfl)) ?_
      refine sq_grd rfl rfl (guard_f rfl rfl rfl) (fun hc => w_sneq rfl (ev_whn rfl hc) (ev_whn rfl hc)) ?_
      refine sq_plain rfl rfl rfl (w_or rfl (ev_tmp rfl) (evif_w rfl)) ?_
      refine sq_nil ?_
      refine awp_cond (ev_tmp rfl) ?_ ?_
      · intro h68
        have hp3 : parse3 s a b k = (emptyF, false) := if_pos (by unfold bad3; rw [hi]; exact h68)
        rw [hp3]
        refine awp_seq ?_
        refine awp_region ?_
        refine sq_plain rfl rfl rfl (w_build (places := #[(0, 1), (1, 1), (2, 1), (3, 1), (4, 1)]) rfl Tryd.underlying27 Tryd.zeroValue27 (fun w => by kernel_rfl) rfl bp_nil rfl) ?_
        refine sq_storeB0 1 rfl rfl rfl (ev_tmp rfl) (ev_tmp rfl) (as_agg _) rfl Tryd.sizeOf27 rfl ?_
        refine sq_plain rfl rfl rfl (w_assign rfl ev_cb) ?_
        refine sq_nil ?_
        refine awp_ret ?_
        exact retN rfl (by decide) (rv_cons (rv_cell (ys := _) 1 rfl rfl Tryd.isAgg27 Tryd.sizeOf27 rfl) (rv_cons (rv_tmp' rfl (by rfl)) rv_nil))
      · intro h68
        have hp3 : parse3 s a b k = (itemOf a b k, true) := if_neg (by unfold bad3; rw [hi, h68]; decide)
        rw [hp3, hi]
        refine awp_skip ?_
        refine awp_seq ?_
        refine awp_region ?_
        refine sq_plain rfl rfl rfl (w_loadA 0 rfl (ev_tmp rfl) rfl Tryd.isAgg27 Tryd.sizeOf27 rfl) ?_
        refine sq_storeB0 1 rfl rfl rfl (ev_tmp rfl) (ev_tmp rfl) (as_agg _) rfl Tryd.sizeOf27 rfl ?_
        refine sq_plain rfl rfl rfl (w_assign rfl ev_cb) ?_
        refine sq_nil ?_
        refine awp_ret ?_
        exact retN rfl (by decide) (rv_cons (rv_cell (ys := _) 1 rfl rfl Tryd.isAgg27 Tryd.sizeOf27 rfl) (rv_cons (rv_tmp' rfl (by rfl)) rv_nil))
    · intro h47
      have hi : itemOf a b k = ⟨(readI a 1 100000).1, (readI b 0 3).1, (Lib.cut k [61]).1, (Lib.cut k [61]).2.1, false⟩ := if_neg (by rw [h47]; decide)
      rw [hi] at hsz
      refine awp_skip ?_
      refine awp_seq ?_
      refine awp_seq ?_
      refine awp_region ?_
      refine sq_plain rfl rfl rfl (w_move rfl (ev_tmp rfl)) ?_
      refine sq_plain rfl rfl rfl (w_not rfl (ev_tmp rfl)) ?_
      refine sq_plain rfl rfl rfl (w_move rfl (ev_tmp rfl)) ?_
      refine sq_grd rfl rfl (guard_f rfl rfl rfl) (fun hc => w_move rfl (ev_tmp rfl)) ?_
      refine sq_grd rfl rfl (guard_f rfl rfl rfl) (fun hc => w_not rfl (ev_whn rfl hc)) ?_
      refine sq_plain rfl rfl rfl (w_or rfl (ev_tmp rfl) (evif_w rfl)) ?_
      refine sq_plain rfl rfl rfl (w_move rfl (ev_tmp rfl)) ?_
      refine sq_grd rfl rfl (guard_f rfl rfl rfl) (fun hc => w_loadA 0 rfl (ev_tmp rfl) rfl Tryd.isAgg27 Tryd.sizeOf27 rfl) ?_
      refine sq_grd rfl rfl (guard_f rfl rfl rfl) (fun hc => w_call rfl Tryd.call29 rfl ((by first | exact goodItem_spec ⟨(readI a 1 100000).1, (readI b 0 3).1, Lib.trimSuffix (Lib.cut k [61]).1 [33], (Lib.cut k [61]).2.1, true⟩ (by omega) | exact goodItem_spec ⟨(readI a 1 100000).1, (readI b 0 3).1, (Lib.cut k [61]).1, (Lib.cut k [61]).2.1, false⟩ (by omega))) (evl_cons (ev_whn rfl hc) evl_nil)) ?_
      refine sq_grd rfl rfl (guard_f rfl rfl rfl) (fun hc => w_not rfl (ev_whn rfl hc)) ?_
      refine sq_plain rfl rfl rfl (w_or rfl (ev_tmp rfl) (evif_w rfl)) ?_
      refine sq_plain rfl rfl rfl (w_move rfl (ev_tmp rfl)) ?_
      refine sq_grd rfl rfl (guard_f rfl rfl rfl) (fun hc => w_loadA 0 rfl (ev_tmp rfl) rfl Tryd.isAgg27 Tryd.sizeOf27 rfl) ?_
      refine sq_grd rfl rfl (guard_f rfl rfl rfl) (fun hc => w_callT 2 rfl rfl Tryd.call30 rfl ((by first | exact feedLine_spec ⟨(readI a 1 100000).1, (readI b 0 3).1, Lib.trimSuffix (Lib.cut k [61]).1 [33], (Lib.cut k [61]).2.1, true⟩ (by omega) (by simp only [Bool.not_eq_true', Bool.or_eq_false_iff, Bool.not_eq_false'] at hc; exact hc.2) | exact feedLine_spec ⟨(readI a 1 100000).1, (readI b 0 3).1, (Lib.cut k [61]).1, (Lib.cut k [61]).2.1, false⟩ (by omega) (by simp only [Bool.not_eq_true', Bool.or_eq_false_iff, Bool.not_eq_false'] at hc; exact hc.2))) (evl_cons (ev_whn rfl hc) evl_nil) (by first | exact fun _ h => h | exact fun _ h => h.1)) ?_
      refine sq_grd rfl rfl (guard_f rfl rfl rfl) (fun hc => w_move rfl (ev_tmp rfl)) ?_
      refine sq_grd rfl rfl (guard_f rfl rfl rfl) (fun hc => w_sneq rfl (ev_whn rfl hc) (ev_whn rfl hc)) ?_
      refine sq_plain rfl rfl rfl (w_or rfl (ev_tmp rfl) (evif_w rfl)) ?_
      refine sq_nil ?_
      refine awp_cond (ev_tmp rfl) ?_ ?_
      · intro h68
        have hp3 : parse3 s a b k = (emptyF, false) := if_pos (by unfold bad3; rw [hi]; exact h68)
        rw [hp3]
        refine awp_seq ?_
        refine awp_region ?_
        refine sq_plain rfl rfl rfl (w_build (places := #[(0, 1), (1, 1), (2, 1), (3, 1), (4, 1)]) rfl Tryd.underlying27 Tryd.zeroValue27 (fun w => by kernel_rfl) rfl bp_nil rfl) ?_
        refine sq_storeB0 1 rfl rfl rfl (ev_tmp rfl) (ev_tmp rfl) (as_agg _) rfl Tryd.sizeOf27 rfl ?_
        refine sq_plain rfl rfl rfl (w_assign rfl ev_cb) ?_
        refine sq_nil ?_
        refine awp_ret ?_
        exact retN rfl (by decide) (rv_cons (rv_cell (ys := _) 1 rfl rfl Tryd.isAgg27 Tryd.sizeOf27 rfl) (rv_cons (rv_tmp' rfl (by rfl)) rv_nil))
      · intro h68
        have hp3 : parse3 s a b k = (itemOf a b k, true) := if_neg (by unfold bad3; rw [hi, h68]; decide)
        rw [hp3, hi]
        refine awp_skip ?_
        refine awp_seq ?_
        refine awp_region ?_
        refine sq_plain rfl rfl rfl (w_loadA 0 rfl (ev_tmp rfl) rfl Tryd.isAgg27 Tryd.sizeOf27 rfl) ?_
        refine sq_storeB0 1 rfl rfl rfl (ev_tmp rfl) (ev_tmp rfl) (as_agg _) rfl Tryd.sizeOf27 rfl ?_
        refine sq_plain rfl rfl rfl (w_assign rfl ev_cb) ?_
        refine sq_nil ?_
        refine awp_ret ?_
        exact retN rfl (by decide) (rv_cons (rv_cell (ys := _) 1 rfl rfl Tryd.isAgg27 Tryd.sizeOf27 rfl) (rv_cons (rv_tmp' rfl (by rfl)) rv_nil))
theorem readFeedLineS_spec (s : Str) (hs : s.length ≤ 1048576) : FSpec Tryd.prog 17 [AV.str s] (AV.tup [AV.agg (parseFS s).1.cs, AV.bool (parseFS s).2]) := by
  refine spec_of_awp Tryd.func17 rfl Tryd.ntmps17 rfl ?_
  refine awp_seq ?_
  refine awp_region ?_
  refine sq_alloc rfl rfl rfl rfl Tryd.zeroValue27 rfl ?_
  intro b2
  refine sq_plain rfl rfl rfl (w_assign rfl ev_cb) ?_
  refine sq_nil ?_
  refine awp_seq ?_
  refine awp_region ?_
  refine sq_plain rfl rfl rfl (w_move rfl (ev_tmp rfl)) ?_
  refine sq_plain rfl rfl rfl (w_call rfl Tryd.call41 rfl (l1Split_spec s 32 hs) (evl_cons (ev_tmp rfl) (evl_cons ev_ci evl_nil))) ?_
  refine sq_plain rfl rfl rfl (w_assign rfl (ev_tmp rfl)) ?_
  refine sq_nil ?_
  refine awp_seq ?_
  refine awp_seq ?_
  refine awp_region ?_
  refine sq_plain rfl rfl rfl (w_move rfl (ev_tmp rfl)) ?_
  refine sq_plain rfl rfl rfl (w_llen rfl Tryd.underlying30 (ev_tmp rfl)) ?_
  refine sq_plain rfl rfl rfl (w_neq rfl (ev_tmp rfl) ev_ci) ?_
  refine sq_plain rfl rfl rfl (w_move rfl (ev_tmp rfl)) ?_
  refine sq_grd rfl rfl (guard_f rfl rfl rfl) (fun hc => w_move rfl (ev_tmp rfl)) ?_
  refine sq_grd rfl rfl (guard_f rfl rfl rfl) (fun hc => w_idxm rfl Tryd.underlying30 Tryd.sizeOf9 (ev_whn rfl hc) ev_ci (get2 (by (have h9 := hc; simp [List.length_map] at h9; omega))) (by first | omega | ((try simp only [List.length_map, List.length_take, List.length_cons, List.length_nil, chunks_len, szR] at *); omega) | (have hc2 := hc; simp only [Bool.and_eq_true, Bool.or_eq_true, Bool.or_eq_false_iff, Bool.and_eq_false_iff, Bool.not_eq_true', Bool.not_eq_false', decide_eq_true_eq, decide_eq_false_iff_not, beq_iff_eq, bne_iff_ne, List.length_map, List.length_take] at hc2; omega))) ?_
  refine sq_grd rfl rfl (guard_f rfl rfl rfl) (fun hc => w_loadE1 rfl (ev_whn rfl hc) Tryd.isAgg9 rfl) ?_
  refine sq_grd rfl rfl (guard_f rfl rfl rfl) (fun hc => w_slen rfl Tryd.underlying9 (ev_whn rfl hc)) ?_
  refine sq_grd rfl rfl (guard_f rfl rfl rfl) (fun hc => w_lss rfl (ev_whn rfl hc) ev_ci) ?_
  refine sq_plain rfl rfl rfl (w_or rfl (ev_tmp rfl) (evif_w rfl)) ?_
  refine sq_nil ?_
  refine awp_cond (ev_tmp rfl) ?_ ?_
  · intro h18
    have he : parseFS s = (emptyF, false) := (by (by_cases h3 : (splitC 32 s).length = 3); (obtain ⟨a, b, k, hw⟩ := three_of h3; rw [parseFS_three hw, if_pos]; rw [hw] at h18; simp at h18; omega); exact parseFS_not h3)
    rw [he]
    refine awp_seq ?_
    refine awp_region ?_
    refine sq_plain rfl rfl rfl (w_build (places := #[(0, 1), (1, 1), (2, 1), (3, 1), (4, 1)]) rfl Tryd.underlying27 Tryd.zeroValue27 (fun w => by kernel_rfl) rfl bp_nil rfl) ?_
    refine sq_storeB0 0 rfl rfl rfl (ev_tmp rfl) (ev_tmp rfl) (as_agg _) rfl Tryd.sizeOf27 rfl ?_
    refine sq_plain rfl rfl rfl (w_assign rfl ev_cb) ?_
    refine sq_nil ?_
    refine awp_ret ?_
    exact retN rfl (by decide) (rv_cons (rv_cell (ys := _) 0 rfl rfl Tryd.isAgg27 Tryd.sizeOf27 rfl) (rv_cons (rv_tmp' rfl (by rfl)) rv_nil))
  · intro h18
    simp only [Bool.or_eq_false_iff] at h18
    obtain ⟨h18a, h18b⟩ := h18
    obtain ⟨a, b, k, hw⟩ := three_of (l := splitC 32 s) (by (simp [List.length_map] at h18a; omega))
    rw [hw] at h18b
    have hk2 : ¬ k.length < 2 := (by simp at h18b; omega)
    have he := (parseFS_three hw).trans (if_neg hk2)
    rw [he, hw]
    have hla : a.length ≤ s.length := splitC_len (c := 32) (by rw [hw]; exact List.mem_cons_self)
    have hlb : b.length ≤ s.length := splitC_len (c := 32) (by rw [hw]; exact List.mem_cons_of_mem _ List.mem_cons_self)
    have hlk : k.length ≤ s.length := splitC_len (c := 32) (by rw [hw]; exact List.mem_cons_of_mem _ (List.mem_cons_of_mem _ List.mem_cons_self))
    refine awp_skip ?_
    refine awp_seq ?_
    refine awp_region_tree _ 19 (.pure 0 (.pure 1 (.pure 2 (.pure 3 (.pure 4 (.pure 5 (.pure 6 (.pure 7 (.pure 8 (.pure 9 (.pure 10 (.pure 11 (.pure 12 (.pure 13 (.pure 14 (.pure 15 (.pure 16 (.pure 17 (.e1 18 .nil))))))))))))))))))) (by kernel_rfl) (by kernel_rfl) rfl invx_self ?_
    refine bt_plain rfl rfl rfl (fun ext => w_move rfl (ev_tmp rfl)) ?_
    refine bt_plain rfl rfl rfl (fun ext => w_idxm rfl Tryd.underlying30 Tryd.sizeOf9 (ev_tmp rfl) ev_ci (show [a, b, k][0]? = some a from rfl) (by first | omega | ((try simp only [List.length_map, List.length_take, List.length_cons, List.length_nil, chunks_len, szR] at *); omega) | (have hc2 := hc; simp only [Bool.and_eq_true, Bool.or_eq_true, Bool.or_eq_false_iff, Bool.and_eq_false_iff, Bool.not_eq_true', Bool.not_eq_false', decide_eq_true_eq, decide_eq_false_iff_not, beq_iff_eq, bne_iff_ne, List.length_map, List.length_take] at hc2; omega))) ?_
    refine bt_plain rfl rfl rfl (fun ext => w_loadE1 rfl (ev_tmp rfl) Tryd.isAgg9 rfl) ?_
    refine bt_plain rfl rfl rfl (fun ext => w_call rfl Tryd.call42 rfl (l1Read_spec a (by omega)) (evl_cons (ev_tmp rfl) evl_nil)) ?_
    refine bt_plain rfl rfl rfl (fun ext => w_move rfl (ev_tmp rfl)) ?_
    refine bt_plain rfl rfl rfl (fun ext => w_idxm rfl Tryd.underlying30 Tryd.sizeOf9 (ev_tmp rfl) ev_ci (show [a, b, k][1]? = some b from rfl) (by first | omega | ((try simp only [List.length_map, List.length_take, List.length_cons, List.length_nil, chunks_len, szR] at *); omega) | (have hc2 := hc; simp only [Bool.and_eq_true, Bool.or_eq_true, Bool.or_eq_false_iff, Bool.and_eq_false_iff, Bool.not_eq_true', Bool.not_eq_false', decide_eq_true_eq, decide_eq_false_iff_not, beq_iff_eq, bne_iff_ne, List.length_map, List.length_take] at hc2; omega))) ?_
    refine bt_plain rfl rfl rfl (fun ext => w_loadE1 rfl (ev_tmp rfl) Tryd.isAgg9 rfl) ?_
    refine bt_plain rfl rfl rfl (fun ext => w_call rfl Tryd.call42 rfl (l1Read_spec b (by omega)) (evl_cons (ev_tmp rfl) evl_nil)) ?_
    refine bt_plain rfl rfl rfl (fun ext => w_move rfl (ev_tmp rfl)) ?_
    refine bt_plain rfl rfl rfl (fun ext => w_idxm rfl Tryd.underlying30 Tryd.sizeOf9 (ev_tmp rfl) ev_ci (show [a, b, k][2]? = some k from rfl) (by first | omega | ((try simp only [List.length_map, List.length_take, List.length_cons, List.length_nil, chunks_len, szR] at *); omega) | (have hc2 := hc; simp only [Bool.and_eq_true, Bool.or_eq_true, Bool.or_eq_false_iff, Bool.and_eq_false_iff, Bool.not_eq_true', Bool.not_eq_false', decide_eq_true_eq, decide_eq_false_iff_not, beq_iff_eq, bne_iff_ne, List.length_map, List.length_take] at hc2; omega))) ?_
    refine bt_plain rfl rfl rfl (fun ext => w_loadE1 rfl (ev_tmp rfl) Tryd.isAgg9 rfl) ?_
    refine bt_plain rfl rfl rfl (fun ext => w_move rfl (ev_tmp rfl)) ?_
    refine bt_plain rfl rfl rfl (fun ext => w_idxm rfl Tryd.underlying30 Tryd.sizeOf9 (ev_tmp rfl) ev_ci (show [a, b, k][2]? = some k from rfl) (by first | omega | ((try simp only [List.length_map, List.length_take, List.length_cons, List.length_nil, chunks_len, szR] at *); omega) | (have hc2 := hc; simp only [Bool.and_eq_true, Bool.or_eq_true, Bool.or_eq_false_iff, Bool.and_eq_false_iff, Bool.not_eq_true', Bool.not_eq_false', decide_eq_true_eq, decide_eq_false_iff_not, beq_iff_eq, bne_iff_ne, List.length_map, List.length_take] at hc2; omega))) ?_
    refine bt_plain rfl rfl rfl (fun ext => w_loadE1 rfl (ev_tmp rfl) Tryd.isAgg9 rfl) ?_
    refine bt_plain rfl rfl rfl (fun ext => w_slen rfl Tryd.underlying9 (ev_tmp rfl)) ?_
    refine bt_plain rfl rfl rfl (fun ext => w_subi rfl (ev_tmp rfl) ev_ci (by first | omega | ((try simp only [List.length_map, List.length_take, List.length_cons, List.length_nil, chunks_len, szR] at *); omega) | (have hc2 := hc; simp only [Bool.and_eq_true, Bool.or_eq_true, Bool.or_eq_false_iff, Bool.and_eq_false_iff, Bool.not_eq_true', Bool.not_eq_false', decide_eq_true_eq, decide_eq_false_iff_not, beq_iff_eq, bne_iff_ne, List.length_map, List.length_take] at hc2; omega))) ?_
    refine bt_plain rfl rfl rfl (fun ext => w_ssl_hi rfl Tryd.underlying9 (ev_tmp rfl) (ev_tmp rfl) (by first | omega | ((try simp only [List.length_map, List.length_take, List.length_cons, List.length_nil, chunks_len, szR] at *); omega) | (have hc2 := hc; simp only [Bool.and_eq_true, Bool.or_eq_true, Bool.or_eq_false_iff, Bool.and_eq_false_iff, Bool.not_eq_true', Bool.not_eq_false', decide_eq_true_eq, decide_eq_false_iff_not, beq_iff_eq, bne_iff_ne, List.length_map, List.length_take] at hc2; omega)) (by first | omega | ((try simp only [List.length_map, List.length_take, List.length_cons, List.length_nil, chunks_len, szR] at *); omega) | (have hc2 := hc; simp only [Bool.and_eq_true, Bool.or_eq_true, Bool.or_eq_false_iff, Bool.and_eq_false_iff, Bool.not_eq_true', Bool.not_eq_false', decide_eq_true_eq, decide_eq_false_iff_not, beq_iff_eq, bne_iff_ne, List.length_map, List.length_take] at hc2; omega))) ?_
    rw [show ((k.length : Int) - 1).toNat = k.length - 1 by omega]
    refine bt_plain rfl rfl rfl (fun ext => w_build (places := #[(0, 1), (1, 1), (2, 1), (3, 1), (4, 1)]) rfl Tryd.underlying27 Tryd.zeroValue27 (fun w => by kernel_rfl) rfl (bp_cons (ev_tmp rfl) (as_ik _ _) (bp_cons (ev_tmp rfl) (as_ik _ _) (bp_cons (ev_tmp rfl) (as_str _) (bp_cons ev_cb (as_bool _) bp_nil)))) rfl) ?_
    refine bt_e1 ?_
    refine eff_s rfl rfl rfl (opE_alloc rfl Tryd.zeroValue27 rfl) (fun a _ => (by first | exact invx_mk rfl | exact invx_mk (List.append_assoc _ _ _) | exact invx_all)) ?_
    intro b5 _
    refine bt_nil ?_
    refine sq_storeB0 1 rfl rfl rfl (ev_tmp rfl) (ev_tmp rfl) (as_agg _) rfl Tryd.sizeOf27 rfl ?_
    refine sq_nil ?_
    refine awp_seq ?_
    refine awp_seq ?_
    refine awp_region ?_
    refine sq_plain rfl rfl rfl (w_move rfl (ev_tmp rfl)) ?_
    refine sq_plain rfl rfl rfl (w_idxm rfl Tryd.underlying30 Tryd.sizeOf9 (ev_tmp rfl) ev_ci (show [a, b, k][2]? = some k from rfl) (by first | omega | ((try simp only [List.length_map, List.length_take, List.length_cons, List.length_nil, chunks_len, szR] at *); omega) | (have hc2 := hc; simp only [Bool.and_eq_true, Bool.or_eq_true, Bool.or_eq_false_iff, Bool.and_eq_false_iff, Bool.not_eq_true', Bool.not_eq_false', decide_eq_true_eq, decide_eq_false_iff_not, beq_iff_eq, bne_iff_ne, List.length_map, List.length_take] at hc2; omega))) ?_
    refine sq_plain rfl rfl rfl (w_loadE1 rfl (ev_tmp rfl) Tryd.isAgg9 rfl) ?_
    refine sq_plain rfl rfl rfl (w_call rfl Tryd.call41 rfl (l1Split_spec k 61 (by omega)) (evl_cons (ev_tmp rfl) (evl_cons ev_ci evl_nil))) ?_
    refine sq_plain rfl rfl rfl (w_assign rfl (ev_tmp rfl)) ?_
    refine sq_nil ?_
    refine awp_seq ?_
    refine awp_region ?_
    refine sq_plain rfl rfl rfl (w_move rfl (ev_tmp rfl)) ?_
    refine sq_plain rfl rfl rfl (w_llen rfl Tryd.underlying30 (ev_tmp rfl)) ?_
    refine sq_plain rfl rfl rfl (w_eql rfl (ev_tmp rfl) ev_ci) ?_
    refine sq_nil ?_
    refine awp_cond (ev_tmp rfl) ?_ ?_
    · intro h44
      have k44 := eq_of_beqt h44; try simp only [List.length_map] at k44
      obtain ⟨x, y, hxy⟩ := two_of (l := splitC 61 k) (by omega)
      have hi := itemS_two (a := a) (b := b) hxy
      rw [hxy]
      have hl2 := split2_len hxy
      refine awp_seq ?_
      refine awp_region ?_
      refine sq_plain rfl rfl rfl (w_move rfl (ev_tmp rfl)) ?_
      refine sq_plain rfl rfl rfl (w_idxm rfl Tryd.underlying30 Tryd.sizeOf9 (ev_tmp rfl) ev_ci (show [x, y][0]? = some x from rfl) (by first | omega | ((try simp only [List.length_map, List.length_take, List.length_cons, List.length_nil, chunks_len, szR] at *); omega) | (have hc2 := hc; simp only [Bool.and_eq_true, Bool.or_eq_true, Bool.or_eq_false_iff, Bool.and_eq_false_iff, Bool.not_eq_true', Bool.not_eq_false', decide_eq_true_eq, decide_eq_false_iff_not, beq_iff_eq, bne_iff_ne, List.length_map, List.length_take] at hc2; omega))) ?_
      refine sq_plain rfl rfl rfl (w_loadE1 rfl (ev_tmp rfl) Tryd.isAgg9 rfl) ?_
      refine sq_plain rfl rfl rfl (w_fldBn 2 rfl Tryd.underlying27 rfl Tryd.sizeOf9 (ev_tmp rfl) rfl) ?_
      refine sq_storeB1 1 rfl rfl rfl (ev_tmp rfl) (ev_tmp rfl) (as_str _) rfl Tryd.sizeOf9 rfl ?_
      refine sq_nil ?_
      refine awp_seq ?_
      refine awp_region ?_
      refine sq_plain rfl rfl rfl (w_move rfl (ev_tmp rfl)) ?_
      refine sq_plain rfl rfl rfl (w_idxm rfl Tryd.underlying30 Tryd.sizeOf9 (ev_tmp rfl) ev_ci (show [x, y][1]? = some y from rfl) (by first | omega | ((try simp only [List.length_map, List.length_take, List.length_cons, List.length_nil, chunks_len, szR] at *); omega) | (have hc2 := hc; simp only [Bool.and_eq_true, Bool.or_eq_true, Bool.or_eq_false_iff, Bool.and_eq_false_iff, Bool.not_eq_true', Bool.not_eq_false', decide_eq_true_eq, decide_eq_false_iff_not, beq_iff_eq, bne_iff_ne, List.length_map, List.length_take] at hc2; omega))) ?_
      refine sq_plain rfl rfl rfl (w_loadE1 rfl (ev_tmp rfl) Tryd.isAgg9 rfl) ?_
      refine sq_plain rfl rfl rfl (w_fldBn 3 rfl Tryd.underlying27 rfl Tryd.sizeOf9 (ev_tmp rfl) rfl) ?_
      refine sq_storeB1 1 rfl rfl rfl (ev_tmp rfl) (ev_tmp rfl) (as_str _) rfl Tryd.sizeOf9 rfl ?_
      refine sq_nil ?_
      refine awp_region ?_
      refine sq_plain rfl rfl rfl (w_fldBn 4 rfl Tryd.underlying27 rfl Tryd.sizeOf4 (ev_tmp rfl) rfl) ?_
      refine sq_storeB1 1 rfl rfl rfl (ev_tmp rfl) ev_cb (as_bool _) rfl Tryd.sizeOf4 rfl ?_
      refine sq_nil ?_
      refine awp_seq ?_
      refine awp_seq ?_
      refine awp_region ?_
      refine sq_plain rfl rfl rfl (w_loadA 1 rfl (ev_tmp rfl) rfl Tryd.isAgg27 Tryd.sizeOf27 rfl) ?_
      refine sq_plain rfl rfl rfl (w_call rfl Tryd.call27 rfl ((by first | exact l23Good_spec ⟨l1R a, l1R b, x, y, false⟩ (by simp only [TFeedItem.size]; omega) | exact l23Good_spec ⟨l1R a, l1R b, k.take (k.length - 1), [], true⟩ (by simp only [TFeedItem.size, List.length_nil]; omega))) (evl_cons (ev_tmp rfl) evl_nil)) ?_
      refine sq_plain rfl rfl rfl (w_not rfl (ev_tmp rfl)) ?_
      refine sq_plain rfl rfl rfl (w_move rfl (ev_tmp rfl)) ?_
      refine sq_grd rfl rfl (guard_f rfl rfl rfl) (fun hc => w_loadA 1 rfl (ev_tmp rfl) rfl Tryd.isAgg27 Tryd.sizeOf27 rfl) ?_
      refine sq_grd rfl rfl (guard_f rfl rfl rfl) (fun hc => w_call rfl Tryd.call28 rfl ((by first | exact l23Line_spec ⟨l1R a, l1R b, x, y, false⟩ (by simp only [TFeedItem.size]; omega) (by rw [goodItem_eq]; simpa using hc) | exact l23Line_spec ⟨l1R a, l1R b, k.take (k.length - 1), [], true⟩ (by simp only [TFeedItem.size, List.length_nil]; omega) (by rw [goodItem_eq]; simpa using hc))) (evl_cons (ev_whn rfl hc) evl_nil)) ?_
      refine sq_grd rfl rfl (guard_f rfl rfl rfl) (fun hc => w_move rfl (ev_tmp rfl)) ?_
      refine sq_grd rfl rfl (guard_f rfl rfl rfl) (fun hc => w_sneq rfl (ev_whn rfl hc) (ev_whn rfl hc)) ?_
      refine sq_plain rfl rfl rfl (w_or rfl (ev_tmp rfl) (evif_w rfl)) ?_
      refine sq_nil ?_
      refine awp_cond (ev_tmp rfl) ?_ ?_
      · intro h62
        have hp3 : parse3S s a b k = (emptyF, false) := if_pos (by rw [hi]; exact h62)
        rw [hp3]
        refine awp_seq ?_
        refine awp_region ?_
        refine sq_plain rfl rfl rfl (w_build (places := #[(0, 1), (1, 1), (2, 1), (3, 1), (4, 1)]) rfl Tryd.underlying27 Tryd.zeroValue27 (fun w => by kernel_rfl) rfl bp_nil rfl) ?_
        refine sq_storeB0 0 rfl rfl rfl (ev_tmp rfl) (ev_tmp rfl) (as_agg _) rfl Tryd.sizeOf27 rfl ?_
        refine sq_plain rfl rfl rfl (w_assign rfl ev_cb) ?_
        refine sq_nil ?_
        refine awp_ret ?_
        exact retN rfl (by decide) (rv_cons (rv_cell (ys := _) 0 rfl rfl Tryd.isAgg27 Tryd.sizeOf27 rfl) (rv_cons (rv_tmp' rfl (by rfl)) rv_nil))
      · intro h62
        have hp3 : parse3S s a b k = (itemS a b k, true) := if_neg (by rw [hi, h62]; decide)
        rw [hp3, hi]
        refine awp_skip ?_
        refine awp_seq ?_
        refine awp_region ?_
        refine sq_plain rfl rfl rfl (w_loadA 1 rfl (ev_tmp rfl) rfl Tryd.isAgg27 Tryd.sizeOf27 rfl) ?_
        refine sq_storeB0 0 rfl rfl rfl (ev_tmp rfl) (ev_tmp rfl) (as_agg _) rfl Tryd.sizeOf27 rfl ?_
        refine sq_plain rfl rfl rfl (w_assign rfl ev_cb) ?_
        refine sq_nil ?_
        refine awp_ret ?_
        exact retN rfl (by decide) (rv_cons (rv_cell (ys := _) 0 rfl rfl Tryd.isAgg27 Tryd.sizeOf27 rfl) (rv_cons (rv_tmp' rfl (by rfl)) rv_nil))
    · intro h44
      have k44 := ne_of_beqf h44; try simp only [List.length_map] at k44
      have hi := itemS_not (a := a) (b := b) (k := k) (by omega)
      have htk : (k.take (k.length - 1)).length ≤ k.length := by (rw [List.length_take]; omega)
      refine awp_skip ?_
      refine awp_seq ?_
      refine awp_seq ?_
      refine awp_region ?_
      refine sq_plain rfl rfl rfl (w_loadA 1 rfl (ev_tmp rfl) rfl Tryd.isAgg27 Tryd.sizeOf27 rfl) ?_
      refine sq_plain rfl rfl rfl (w_call rfl Tryd.call27 rfl ((by first | exact l23Good_spec ⟨l1R a, l1R b, x, y, false⟩ (by simp only [TFeedItem.size]; omega) | exact l23Good_spec ⟨l1R a, l1R b, k.take (k.length - 1), [], true⟩ (by simp only [TFeedItem.size, List.length_nil]; omega))) (evl_cons (ev_tmp rfl) evl_nil)) ?_
      refine sq_plain rfl rfl rfl (w_not rfl (ev_tmp rfl)) ?_
      refine sq_plain rfl rfl rfl (w_move rfl (ev_tmp rfl)) ?_
      refine sq_grd rfl rfl (guard_f rfl rfl rfl) (fun hc => w_loadA 1 rfl (ev_tmp rfl) rfl Tryd.isAgg27 Tryd.sizeOf27 rfl) ?_
      refine sq_grd rfl rfl (guard_f rfl rfl rfl) (fun hc => w_call rfl Tryd.call28 rfl ((by first | exact l23Line_spec ⟨l1R a, l1R b, x, y, false⟩ (by simp only [TFeedItem.size]; omega) (by rw [goodItem_eq]; simpa using hc) | exact l23Line_spec ⟨l1R a, l1R b, k.take (k.length - 1), [], true⟩ (by simp only [TFeedItem.size, List.length_nil]; omega) (by rw [goodItem_eq]; simpa using hc))) (evl_cons (ev_whn rfl hc) evl_nil)) ?_
      refine sq_grd rfl rfl (guard_f rfl rfl rfl) (fun hc => w_move rfl (ev_tmp rfl)) ?_
      refine sq_grd rfl rfl (guard_f rfl rfl rfl) (fun hc => w_sneq rfl (ev_whn rfl hc) (ev_whn rfl hc)) ?_
      refine sq_plain rfl rfl rfl (w_or rfl (ev_tmp rfl) (evif_w rfl)) ?_
      refine sq_nil ?_
      refine awp_cond (ev_tmp rfl) ?_ ?_
      · intro h62
        have hp3 : parse3S s a b k = (emptyF, false) := if_pos (by rw [hi]; exact h62)
        rw [hp3]
        refine awp_seq ?_
        refine awp_region ?_
        refine sq_plain rfl rfl rfl (w_build (places := #[(0, 1), (1, 1), (2, 1), (3, 1), (4, 1)]) rfl Tryd.underlying27 Tryd.zeroValue27 (fun w => by kernel_rfl) rfl bp_nil rfl) ?_
        refine sq_storeB0 0 rfl rfl rfl (ev_tmp rfl) (ev_tmp rfl) (as_agg _) rfl Tryd.sizeOf27 rfl ?_
        refine sq_plain rfl rfl rfl (w_assign rfl ev_cb) ?_
        refine sq_nil ?_
        refine awp_ret ?_
        exact retN rfl (by decide) (rv_cons (rv_cell (ys := _) 0 rfl rfl Tryd.isAgg27 Tryd.sizeOf27 rfl) (rv_cons (rv_tmp' rfl (by rfl)) rv_nil))
      · intro h62
        have hp3 : parse3S s a b k = (itemS a b k, true) := if_neg (by rw [hi, h62]; decide)
        rw [hp3, hi]
        refine awp_skip ?_
        refine awp_seq ?_
        refine awp_region ?_
        refine sq_plain rfl rfl rfl (w_loadA 1 rfl (ev_tmp rfl) rfl Tryd.isAgg27 Tryd.sizeOf27 rfl) ?_
        refine sq_storeB0 0 rfl rfl rfl (ev_tmp rfl) (ev_tmp rfl) (as_agg _) rfl Tryd.sizeOf27 rfl ?_
        refine sq_plain rfl rfl rfl (w_assign rfl ev_cb) ?_
        refine sq_nil ?_
        refine awp_ret ?_
        exact retN rfl (by decide) (rv_cons (rv_cell (ys := _) 0 rfl rfl Tryd.isAgg27 Tryd.sizeOf27 rfl) (rv_cons (rv_tmp' rfl (by rfl)) rv_nil))
end Go.Proofs.YtdgoejkijpllpaaDoor

set_option linter.unusedVariables false
set_option linter.unusedSimpArgs false
namespace Go.M
structure TSrc where
  at' : Nat
  bad : Bool
end Go.M

set_option linter.unusedVariables false
set_option linter.unusedSimpArgs false
set_option maxRecDepth 100000
namespace Go.M
open Go.AV
end Go.M
namespace Go.Proofs.YtdgoejkijpllpaaDoor
open Go Go.AV Go.M
attribute [local irreducible] OpW OpA OpS AWP FSpec ESpec GSpec OpE RetOk RetOkG RvDen Le Ev GuardIs SrcIs Int.tmod Int.tdiv IntKind.wrap
end Go.Proofs.YtdgoejkijpllpaaDoor

set_option linter.unusedVariables false
set_option linter.unusedSimpArgs false
set_option maxRecDepth 100000
namespace Go.M
open Go.AV
end Go.M
namespace Go.Proofs.YtdgoejkijpllpaaDoor
open Go Go.AV Go.M
attribute [local irreducible] OpW OpA OpS AWP FSpec ESpec GSpec OpE RetOk RetOkG RvDen Le Ev GuardIs SrcIs Int.tmod Int.tdiv IntKind.wrap
end Go.Proofs.YtdgoejkijpllpaaDoor

set_option linter.unusedVariables false
set_option linter.unusedSimpArgs false
set_option maxRecDepth 100000
namespace Go.M
open Go.AV
end Go.M
namespace Go.Proofs.YtdgoejkijpllpaaDoor
open Go Go.AV Go.M
attribute [local irreducible] OpW OpA OpS AWP FSpec ESpec GSpec OpE RetOk RetOkG RvDen Le Ev GuardIs SrcIs Int.tmod Int.tdiv IntKind.wrap
end Go.Proofs.YtdgoejkijpllpaaDoor

set_option linter.unusedVariables false
set_option linter.unusedSimpArgs false
namespace Go.M
open Go.AV
structure TCur where
  p : Nat
  seed : Int
def bytesI (l : List Int) : AV := AV.list 1 (l.map fun x => [AV.ik .u8 x])
def curC (code : List Int) (c : TCur) : List AV := [bytesI code, AV.int c.p, AV.ik .u64 c.seed]
def ByteL (code : List Int) : Prop := ∀ x ∈ code, 0 ≤ x ∧ x ≤ 255
theorem byteL_of {l : List Int} (h : ∀ x ∈ l, (Lit.int .u8 x).wf = true) : ByteL l := fun x hx => by
  have := h x hx
  simp only [Lit.wf, IntKind.min, IntKind.max, IntKind.signed, IntKind.bits] at this
  simp at this
  omega
theorem wrapS {x : Int} (h : 0 ≤ x ∧ x ≤ 255) : IntKind.i64.wrap x = x := in64 (by omega)
theorem bandI_255 (x : Int) : 0 ≤ bandI x 255 ∧ bandI x 255 ≤ 255 := by
  unfold bandI
  have h1 : (BitVec.ofInt IntKind.u64.bits x &&& BitVec.ofInt IntKind.u64.bits 255).toNat ≤ 255 := by
    rw [BitVec.toNat_and]
    exact Nat.le_trans Nat.and_le_right (by decide)
  generalize (BitVec.ofInt IntKind.u64.bits x &&& BitVec.ofInt IntKind.u64.bits 255).toNat = n at h1
  unfold IntKind.wrap
  simp [IntKind.bits, IntKind.signed]
  omega
end Go.M

set_option linter.unusedVariables false
set_option linter.unusedSimpArgs false
set_option maxRecDepth 100000
namespace Go.Proofs.YtdgoejkijpllpaaDoor
open Go Go.AV Go.M
attribute [local irreducible] OpW OpA OpS AWP FSpec ESpec GSpec OpE RetOk RetOkG RvDen Le Ev GuardIs SrcIs Int.tmod IntKind.wrap bandI
theorem curNext_own (b : Nat) (code : List Int) (hcode : ByteL code) (c : TCur) (hp : c.p ≤ 8000000) : GSpec Tryd.prog 91 [AV.ptr b 0] [.box b 72 (curC code c)] (fun x : TCur × Int => x.1.p ≤ c.p + 1 ∧ 0 ≤ x.2 ∧ x.2 ≤ 255) (fun x => [.box b 72 (curC code x.1)]) (fun x => AV.int x.2) := by
  have hcb := hcode
  refine gspec_of_awp Tryd.func91 rfl Tryd.ntmps91 rfl ?_
  refine awp_seq ?_
  refine awp_region ?_
  refine sq_plain rfl rfl rfl (w_assign rfl ev_ci) ?_
  refine sq_nil ?_
  refine awp_seq ?_
  refine awp_region ?_
  try rw [wrapS hzb]
  refine sq_plain rfl rfl rfl (w_assign rfl ev_ci) ?_
  refine sq_nil ?_
  refine awp_seq ?_
  refine awp_seq ?_
  refine awp_region_any (by kernel_rfl) (by kernel_rfl) rfl ?_
  refine ch_plain rfl rfl (w_move rfl (ev_tmp rfl)) ?_
  refine ch_plain rfl rfl (w_nilB rfl (ev_tmp rfl)) ?_
  refine ch_plain rfl rfl (w_fldBn 1 rfl Tryd.underlying72 rfl Tryd.sizeOf3 (ev_tmp rfl) rfl) ?_
  refine ch_plain rfl rfl (w_loadB1 0 rfl (ev_tmp rfl) rfl Tryd.isAgg3 rfl) ?_
  refine ch_plain rfl rfl (w_move rfl (ev_tmp rfl)) ?_
  refine ch_plain rfl rfl (w_nilB rfl (ev_tmp rfl)) ?_
  refine ch_plain rfl rfl (w_fldBn 0 rfl Tryd.underlying72 rfl Tryd.sizeOf44 (ev_tmp rfl) rfl) ?_
  refine ch_plain rfl rfl (w_loadB1 0 rfl (ev_tmp rfl) rfl Tryd.isAgg44 rfl) ?_
  refine ch_plain rfl rfl (w_llen rfl Tryd.underlying44 (ev_tmp rfl)) ?_
  refine ch_plain rfl rfl (w_lss rfl (ev_tmp rfl) (ev_tmp rfl)) ?_
  refine ch_nil ?_
  refine awp_cond (ev_tmp rfl) ?_ ?_
  · intro h13
    have k13 := of_decide_eq_true h13; try simp only [List.length_map] at k13
    obtain ⟨z, hz⟩ := get_some (show c.p < code.length by omega)
    have hzb := hcb z (List.mem_of_getElem? hz)
    refine awp_region_any (by kernel_rfl) (by kernel_rfl) rfl ?_
    refine ch_plain rfl rfl (w_move rfl (ev_tmp rfl)) ?_
    refine ch_plain rfl rfl (w_nilB rfl (ev_tmp rfl)) ?_
    refine ch_plain rfl rfl (w_fldBn 0 rfl Tryd.underlying72 rfl Tryd.sizeOf44 (ev_tmp rfl) rfl) ?_
    refine ch_plain rfl rfl (w_loadB1 0 rfl (ev_tmp rfl) rfl Tryd.isAgg44 rfl) ?_
    refine ch_plain rfl rfl (w_move rfl (ev_tmp rfl)) ?_
    refine ch_plain rfl rfl (w_nilB rfl (ev_tmp rfl)) ?_
    refine ch_plain rfl rfl (w_fldBn 1 rfl Tryd.underlying72 rfl Tryd.sizeOf3 (ev_tmp rfl) rfl) ?_
    refine ch_plain rfl rfl (w_loadB1 0 rfl (ev_tmp rfl) rfl Tryd.isAgg3 rfl) ?_
    refine ch_plain rfl rfl (w_idxm rfl Tryd.underlying44 Tryd.sizeOf5 (ev_tmp rfl) (ev_tmp rfl) hz rfl) ?_
    refine ch_plain rfl rfl (w_loadE1 rfl (ev_tmp rfl) Tryd.isAgg5 rfl) ?_
    refine ch_plain rfl rfl (w_conv rfl (by kernel_rfl) Tryd.underlying3 (ev_tmp rfl)) ?_
    try rw [wrapS hzb]
    refine ch_plain rfl rfl (w_assign rfl (ev_tmp rfl)) ?_
    refine ch_nil ?_
    refine awp_seq ?_
    refine awp_region ?_
    refine sq_plain rfl rfl rfl (w_move rfl (ev_tmp rfl)) ?_
    refine sq_plain rfl rfl rfl (w_nilB rfl (ev_tmp rfl)) ?_
    refine sq_plain rfl rfl rfl (w_fldBn 1 rfl Tryd.underlying72 rfl Tryd.sizeOf3 (ev_tmp rfl) rfl) ?_
    refine sq_plain rfl rfl rfl (w_loadB1 0 rfl (ev_tmp rfl) rfl Tryd.isAgg3 rfl) ?_
    refine sq_plain rfl rfl rfl (w_addi rfl (ev_tmp rfl) ev_ci (by first | omega | ((try simp only [List.length_map, List.length_take, List.length_cons, List.length_nil, chunks_len, szR] at *); omega) | (have hc2 := hc; simp only [Bool.and_eq_true, Bool.or_eq_true, Bool.or_eq_false_iff, Bool.and_eq_false_iff, Bool.not_eq_true', Bool.not_eq_false', decide_eq_true_eq, decide_eq_false_iff_not, beq_iff_eq, bne_iff_ne, List.length_map, List.length_take] at hc2; omega))) ?_
    refine sq_plain rfl rfl rfl (w_nilB rfl (ev_tmp rfl)) ?_
    refine sq_plain rfl rfl rfl (w_fldBn 1 rfl Tryd.underlying72 rfl Tryd.sizeOf3 (ev_tmp rfl) rfl) ?_
    refine sq_storeB1 0 rfl rfl rfl (ev_tmp rfl) (ev_tmp rfl) (as_ik _ _) rfl Tryd.sizeOf3 rfl ?_
    refine sq_nil ?_
    refine awp_seq ?_
    refine awp_region ?_
    refine sq_plain rfl rfl rfl (w_move rfl (ev_tmp rfl)) ?_
    refine sq_plain rfl rfl rfl (w_move rfl (ev_tmp rfl)) ?_
    refine sq_plain rfl rfl rfl (w_nilB rfl (ev_tmp rfl)) ?_
    refine sq_plain rfl rfl rfl (w_fldBn 2 rfl Tryd.underlying72 rfl Tryd.sizeOf70 (ev_tmp rfl) rfl) ?_
    refine sq_plain rfl rfl rfl (w_loadB1 0 rfl (ev_tmp rfl) rfl Tryd.isAgg70 rfl) ?_
    refine sq_plain rfl rfl rfl (w_mul rfl (ev_tmp rfl) ev_ci) ?_
    refine sq_plain rfl rfl rfl (w_move rfl (ev_tmp rfl)) ?_
    refine sq_plain rfl rfl rfl (w_conv rfl (by kernel_rfl) Tryd.underlying70 (ev_tmp rfl)) ?_
    refine sq_plain rfl rfl rfl (w_add rfl (ev_tmp rfl) (ev_tmp rfl)) ?_
    refine sq_plain rfl rfl rfl (w_add rfl (ev_tmp rfl) ev_ci) ?_
    refine sq_plain rfl rfl rfl (w_nilB rfl (ev_tmp rfl)) ?_
    refine sq_plain rfl rfl rfl (w_fldBn 2 rfl Tryd.underlying72 rfl Tryd.sizeOf70 (ev_tmp rfl) rfl) ?_
    refine sq_storeB1 0 rfl rfl rfl (ev_tmp rfl) (ev_tmp rfl) (as_ik _ _) rfl Tryd.sizeOf70 rfl ?_
    refine sq_nil ?_
    refine awp_seq ?_
    refine awp_seq ?_
    refine awp_region_any (by kernel_rfl) (by kernel_rfl) rfl ?_
    refine ch_plain rfl rfl (w_move rfl (ev_tmp rfl)) ?_
    refine ch_plain rfl rfl (w_nilB rfl (ev_tmp rfl)) ?_
    refine ch_plain rfl rfl (w_fldBn 1 rfl Tryd.underlying72 rfl Tryd.sizeOf3 (ev_tmp rfl) rfl) ?_
    refine ch_plain rfl rfl (w_loadB1 0 rfl (ev_tmp rfl) rfl Tryd.isAgg3 rfl) ?_
    refine ch_plain rfl rfl (w_move rfl (ev_tmp rfl)) ?_
    refine ch_plain rfl rfl (w_nilB rfl (ev_tmp rfl)) ?_
    refine ch_plain rfl rfl (w_fldBn 0 rfl Tryd.underlying72 rfl Tryd.sizeOf44 (ev_tmp rfl) rfl) ?_
    refine ch_plain rfl rfl (w_loadB1 0 rfl (ev_tmp rfl) rfl Tryd.isAgg44 rfl) ?_
    refine ch_plain rfl rfl (w_llen rfl Tryd.underlying44 (ev_tmp rfl)) ?_
    refine ch_plain rfl rfl (w_leq rfl (ev_tmp rfl) (ev_tmp rfl)) ?_
    refine ch_nil ?_
    refine awp_cond (ev_tmp rfl) ?_ ?_
    · intro h53
      have k53 := of_decide_eq_true h53; try simp only [List.length_map] at k53
      refine awp_seq ?_
      refine awp_region ?_
      refine sq_plain rfl rfl rfl (w_move rfl (ev_tmp rfl)) ?_
      refine sq_plain rfl rfl rfl (w_assign rfl (ev_tmp rfl)) ?_
      refine sq_nil ?_
      refine awp_ret ?_
      (refine retG [0] ((⟨c.p + 1, _⟩, _)) ?_ rfl (by first | (dsimp only; rfl) | rfl) (resR rfl (rv_tmp' rfl (by first | rfl | (refine congrArg AV.bool ?_; simp_all; done)))); first | exact ⟨Nat.le_refl _, hzb⟩ | exact ⟨Nat.le_refl _, Int.le_refl 0, (show (0 : Int) ≤ 255 by decide)⟩ | (rw [wrapS (bandI_255 _)]; exact ⟨Nat.le_refl _, bandI_255 _⟩))
    · intro h53
      have k53 := of_decide_eq_false h53; try simp only [List.length_map] at k53
      refine awp_skip ?_
      refine awp_seq ?_
      refine awp_region ?_
      refine sq_plain rfl rfl rfl (w_move rfl (ev_tmp rfl)) ?_
      refine sq_plain rfl rfl rfl (w_nilB rfl (ev_tmp rfl)) ?_
      refine sq_plain rfl rfl rfl (w_fldBn 2 rfl Tryd.underlying72 rfl Tryd.sizeOf70 (ev_tmp rfl) rfl) ?_
      refine sq_plain rfl rfl rfl (w_loadB1 0 rfl (ev_tmp rfl) rfl Tryd.isAgg70 rfl) ?_
      refine sq_plain rfl rfl rfl (w_shr rfl (ev_tmp rfl) ev_ci (by decide) (by decide)) ?_
      refine sq_plain rfl rfl rfl (w_band rfl (ev_tmp rfl) ev_ci) ?_
      refine sq_plain rfl rfl rfl (w_conv rfl (by kernel_rfl) Tryd.underlying3 (ev_tmp rfl)) ?_
      refine sq_plain rfl rfl rfl (w_assign rfl (ev_tmp rfl)) ?_
      refine sq_nil ?_
      refine awp_ret ?_
      (refine retG [0] ((⟨c.p + 1, _⟩, _)) ?_ rfl (by first | (dsimp only; rfl) | rfl) (resR rfl (rv_tmp' rfl (by first | rfl | (refine congrArg AV.bool ?_; simp_all; done)))); first | exact ⟨Nat.le_refl _, hzb⟩ | exact ⟨Nat.le_refl _, Int.le_refl 0, (show (0 : Int) ≤ 255 by decide)⟩ | (rw [wrapS (bandI_255 _)]; exact ⟨Nat.le_refl _, bandI_255 _⟩))
  · intro h13
    have k13 := of_decide_eq_false h13; try simp only [List.length_map] at k13
    refine awp_skip ?_
    refine awp_seq ?_
    refine awp_region ?_
    refine sq_plain rfl rfl rfl (w_move rfl (ev_tmp rfl)) ?_
    refine sq_plain rfl rfl rfl (w_nilB rfl (ev_tmp rfl)) ?_
    refine sq_plain rfl rfl rfl (w_fldBn 1 rfl Tryd.underlying72 rfl Tryd.sizeOf3 (ev_tmp rfl) rfl) ?_
    refine sq_plain rfl rfl rfl (w_loadB1 0 rfl (ev_tmp rfl) rfl Tryd.isAgg3 rfl) ?_
    refine sq_plain rfl rfl rfl (w_addi rfl (ev_tmp rfl) ev_ci (by first | omega | ((try simp only [List.length_map, List.length_take, List.length_cons, List.length_nil, chunks_len, szR] at *); omega) | (have hc2 := hc; simp only [Bool.and_eq_true, Bool.or_eq_true, Bool.or_eq_false_iff, Bool.and_eq_false_iff, Bool.not_eq_true', Bool.not_eq_false', decide_eq_true_eq, decide_eq_false_iff_not, beq_iff_eq, bne_iff_ne, List.length_map, List.length_take] at hc2; omega))) ?_
    refine sq_plain rfl rfl rfl (w_nilB rfl (ev_tmp rfl)) ?_
    refine sq_plain rfl rfl rfl (w_fldBn 1 rfl Tryd.underlying72 rfl Tryd.sizeOf3 (ev_tmp rfl) rfl) ?_
    refine sq_storeB1 0 rfl rfl rfl (ev_tmp rfl) (ev_tmp rfl) (as_ik _ _) rfl Tryd.sizeOf3 rfl ?_
    refine sq_nil ?_
    refine awp_seq ?_
    refine awp_region ?_
    refine sq_plain rfl rfl rfl (w_move rfl (ev_tmp rfl)) ?_
    refine sq_plain rfl rfl rfl (w_move rfl (ev_tmp rfl)) ?_
    refine sq_plain rfl rfl rfl (w_nilB rfl (ev_tmp rfl)) ?_
    refine sq_plain rfl rfl rfl (w_fldBn 2 rfl Tryd.underlying72 rfl Tryd.sizeOf70 (ev_tmp rfl) rfl) ?_
    refine sq_plain rfl rfl rfl (w_loadB1 0 rfl (ev_tmp rfl) rfl Tryd.isAgg70 rfl) ?_
    refine sq_plain rfl rfl rfl (w_mul rfl (ev_tmp rfl) ev_ci) ?_
    refine sq_plain rfl rfl rfl (w_move rfl (ev_tmp rfl)) ?_
    refine sq_plain rfl rfl rfl (w_conv rfl (by kernel_rfl) Tryd.underlying70 (ev_tmp rfl)) ?_
    refine sq_plain rfl rfl rfl (w_add rfl (ev_tmp rfl) (ev_tmp rfl)) ?_
    refine sq_plain rfl rfl rfl (w_add rfl (ev_tmp rfl) ev_ci) ?_
    refine sq_plain rfl rfl rfl (w_nilB rfl (ev_tmp rfl)) ?_
    refine sq_plain rfl rfl rfl (w_fldBn 2 rfl Tryd.underlying72 rfl Tryd.sizeOf70 (ev_tmp rfl) rfl) ?_
    refine sq_storeB1 0 rfl rfl rfl (ev_tmp rfl) (ev_tmp rfl) (as_ik _ _) rfl Tryd.sizeOf70 rfl ?_
    refine sq_nil ?_
    refine awp_seq ?_
    refine awp_seq ?_
    refine awp_region_any (by kernel_rfl) (by kernel_rfl) rfl ?_
    refine ch_plain rfl rfl (w_move rfl (ev_tmp rfl)) ?_
    refine ch_plain rfl rfl (w_nilB rfl (ev_tmp rfl)) ?_
    refine ch_plain rfl rfl (w_fldBn 1 rfl Tryd.underlying72 rfl Tryd.sizeOf3 (ev_tmp rfl) rfl) ?_
    refine ch_plain rfl rfl (w_loadB1 0 rfl (ev_tmp rfl) rfl Tryd.isAgg3 rfl) ?_
    refine ch_plain rfl rfl (w_move rfl (ev_tmp rfl)) ?_
    refine ch_plain rfl rfl (w_nilB rfl (ev_tmp rfl)) ?_
    refine ch_plain rfl rfl (w_fldBn 0 rfl Tryd.underlying72 rfl Tryd.sizeOf44 (ev_tmp rfl) rfl) ?_
    refine ch_plain rfl rfl (w_loadB1 0 rfl (ev_tmp rfl) rfl Tryd.isAgg44 rfl) ?_
    refine ch_plain rfl rfl (w_llen rfl Tryd.underlying44 (ev_tmp rfl)) ?_
    refine ch_plain rfl rfl (w_leq rfl (ev_tmp rfl) (ev_tmp rfl)) ?_
    refine ch_nil ?_
    refine awp_cond (ev_tmp rfl) ?_ ?_
    · intro h53
      have k53 := of_decide_eq_true h53; try simp only [List.length_map] at k53
      refine awp_seq ?_
      refine awp_region ?_
      refine sq_plain rfl rfl rfl (w_move rfl (ev_tmp rfl)) ?_
      refine sq_plain rfl rfl rfl (w_assign rfl (ev_tmp rfl)) ?_
      refine sq_nil ?_
      refine awp_ret ?_
      (refine retG [0] ((⟨c.p + 1, _⟩, _)) ?_ rfl (by first | (dsimp only; rfl) | rfl) (resR rfl (rv_tmp' rfl (by first | rfl | (refine congrArg AV.bool ?_; simp_all; done)))); first | exact ⟨Nat.le_refl _, hzb⟩ | exact ⟨Nat.le_refl _, Int.le_refl 0, (show (0 : Int) ≤ 255 by decide)⟩ | (rw [wrapS (bandI_255 _)]; exact ⟨Nat.le_refl _, bandI_255 _⟩))
    · intro h53
      have k53 := of_decide_eq_false h53; try simp only [List.length_map] at k53
      refine awp_skip ?_
      refine awp_seq ?_
      refine awp_region ?_
      refine sq_plain rfl rfl rfl (w_move rfl (ev_tmp rfl)) ?_
      refine sq_plain rfl rfl rfl (w_nilB rfl (ev_tmp rfl)) ?_
      refine sq_plain rfl rfl rfl (w_fldBn 2 rfl Tryd.underlying72 rfl Tryd.sizeOf70 (ev_tmp rfl) rfl) ?_
      refine sq_plain rfl rfl rfl (w_loadB1 0 rfl (ev_tmp rfl) rfl Tryd.isAgg70 rfl) ?_
      refine sq_plain rfl rfl rfl (w_shr rfl (ev_tmp rfl) ev_ci (by decide) (by decide)) ?_
      refine sq_plain rfl rfl rfl (w_band rfl (ev_tmp rfl) ev_ci) ?_
      refine sq_plain rfl rfl rfl (w_conv rfl (by kernel_rfl) Tryd.underlying3 (ev_tmp rfl)) ?_
      refine sq_plain rfl rfl rfl (w_assign rfl (ev_tmp rfl)) ?_
      refine sq_nil ?_
      refine awp_ret ?_
      (refine retG [0] ((⟨c.p + 1, _⟩, _)) ?_ rfl (by first | (dsimp only; rfl) | rfl) (resR rfl (rv_tmp' rfl (by first | rfl | (refine congrArg AV.bool ?_; simp_all; done)))); first | exact ⟨Nat.le_refl _, hzb⟩ | exact ⟨Nat.le_refl _, Int.le_refl 0, (show (0 : Int) ≤ 255 by decide)⟩ | (rw [wrapS (bandI_255 _)]; exact ⟨Nat.le_refl _, bandI_255 _⟩))
theorem curPick_own (b : Nat) (code : List Int) (hcode : ByteL code) (c : TCur) (n : Int) (hn : n ≤ 1000000) (hp : c.p ≤ 7000000) : GSpec Tryd.prog 73 [AV.ptr b 0, AV.int n] [.box b 72 (curC code c)] (fun x : TCur × Int => x.1.p ≤ c.p + 2 ∧ 0 ≤ x.2 ∧ (x.2 < n ∨ x.2 = 0)) (fun x => [.box b 72 (curC code x.1)]) (fun x => AV.int x.2) := by
  refine gspec_of_awp Tryd.func73 rfl Tryd.ntmps73 rfl ?_
  refine awp_seq ?_
  refine awp_region ?_
  refine sq_plain rfl rfl rfl (w_assign rfl ev_ci) ?_
  refine sq_nil ?_
  refine awp_seq ?_
  refine awp_seq ?_
  refine awp_region ?_
  refine sq_plain rfl rfl rfl (w_move rfl (ev_tmp rfl)) ?_
  refine sq_plain rfl rfl rfl (w_leq rfl (ev_tmp rfl) ev_ci) ?_
  refine sq_nil ?_
  refine awp_cond (ev_tmp rfl) ?_ ?_
  · intro h7
    have k7 := of_decide_eq_true h7; try simp only [List.length_map] at k7
    refine awp_seq ?_
    refine awp_region ?_
    refine sq_plain rfl rfl rfl (w_assign rfl ev_ci) ?_
    refine sq_nil ?_
    refine awp_ret ?_
    (refine retG [0] ((_, _)) ?_ rfl (by first | (dsimp only; rfl) | rfl) (resR rfl (rv_tmp' rfl (by first | rfl | (refine congrArg AV.bool ?_; simp_all; done)))); (dsimp only; first | omega | exact ⟨by omega, Int.tmod_nonneg _ (by omega), .inl (Int.tmod_lt_of_pos _ (by omega))⟩))
  · intro h7
    have k7 := of_decide_eq_false h7; try simp only [List.length_map] at k7
    refine awp_skip ?_
    refine awp_seq ?_
    refine awp_region ?_
    refine sq_plain rfl rfl rfl (w_move rfl (ev_tmp rfl)) ?_
    refine sq_callG [0] rfl rfl rfl rfl Tryd.call91 rfl (curNext_own _ _ hcode _ (by omega)) (evl_cons (ev_tmp rfl) evl_nil) rfl ?_
    intro x9 ok9
    refine sq_plain rfl rfl rfl (w_assign rfl (ev_tmp rfl)) ?_
    refine sq_nil ?_
    refine awp_seq ?_
    refine awp_seq ?_
    refine awp_region ?_
    refine sq_plain rfl rfl rfl (w_move rfl (ev_tmp rfl)) ?_
    refine sq_plain rfl rfl rfl (w_gtr rfl (ev_tmp rfl) ev_ci) ?_
    refine sq_nil ?_
    refine awp_cond (ev_tmp rfl) ?_ ?_
    · intro h11
      have k11 := of_decide_eq_true h11; try simp only [List.length_map] at k11
      refine awp_region ?_
      refine sq_plain rfl rfl rfl (w_move rfl (ev_tmp rfl)) ?_
      refine sq_plain rfl rfl rfl (w_muli rfl (ev_tmp rfl) ev_ci (by first | omega | ((try simp only [List.length_map, List.length_take, List.length_cons, List.length_nil, chunks_len, szR] at *); omega) | (have hc2 := hc; simp only [Bool.and_eq_true, Bool.or_eq_true, Bool.or_eq_false_iff, Bool.and_eq_false_iff, Bool.not_eq_true', Bool.not_eq_false', decide_eq_true_eq, decide_eq_false_iff_not, beq_iff_eq, bne_iff_ne, List.length_map, List.length_take] at hc2; omega))) ?_
      refine sq_plain rfl rfl rfl (w_move rfl (ev_tmp rfl)) ?_
      refine sq_callG [0] rfl rfl rfl rfl Tryd.call91 rfl (curNext_own _ _ hcode _ (by omega)) (evl_cons (ev_tmp rfl) evl_nil) rfl ?_
      intro x15 ok15
      refine sq_plain rfl rfl rfl (w_addi rfl (ev_tmp rfl) (ev_tmp rfl) (by first | omega | ((try simp only [List.length_map, List.length_take, List.length_cons, List.length_nil, chunks_len, szR] at *); omega) | (have hc2 := hc; simp only [Bool.and_eq_true, Bool.or_eq_true, Bool.or_eq_false_iff, Bool.and_eq_false_iff, Bool.not_eq_true', Bool.not_eq_false', decide_eq_true_eq, decide_eq_false_iff_not, beq_iff_eq, bne_iff_ne, List.length_map, List.length_take] at hc2; omega))) ?_
      refine sq_plain rfl rfl rfl (w_assign rfl (ev_tmp rfl)) ?_
      refine sq_nil ?_
      refine awp_seq ?_
      refine awp_region ?_
      refine sq_plain rfl rfl rfl (w_move rfl (ev_tmp rfl)) ?_
      refine sq_plain rfl rfl rfl (w_move rfl (ev_tmp rfl)) ?_
      refine sq_plain rfl rfl rfl (w_rem rfl (ev_tmp rfl) (ev_tmp rfl) (by omega)) ?_
      refine sq_plain rfl rfl rfl (w_assign rfl (ev_tmp rfl)) ?_
      refine sq_nil ?_
      refine awp_ret ?_
      (refine retG [0] ((_, _)) ?_ rfl (by first | (dsimp only; rfl) | rfl) (resR rfl (rv_tmp' rfl (by first | rfl | (refine congrArg AV.bool ?_; simp_all; done)))); (dsimp only; first | omega | exact ⟨by omega, Int.tmod_nonneg _ (by omega), .inl (Int.tmod_lt_of_pos _ (by omega))⟩))
    · intro h11
      have k11 := of_decide_eq_false h11; try simp only [List.length_map] at k11
      refine awp_skip ?_
      refine awp_seq ?_
      refine awp_region ?_
      refine sq_plain rfl rfl rfl (w_move rfl (ev_tmp rfl)) ?_
      refine sq_plain rfl rfl rfl (w_move rfl (ev_tmp rfl)) ?_
      refine sq_plain rfl rfl rfl (w_rem rfl (ev_tmp rfl) (ev_tmp rfl) (by omega)) ?_
      refine sq_plain rfl rfl rfl (w_assign rfl (ev_tmp rfl)) ?_
      refine sq_nil ?_
      refine awp_ret ?_
      (refine retG [0] ((_, _)) ?_ rfl (by first | (dsimp only; rfl) | rfl) (resR rfl (rv_tmp' rfl (by first | rfl | (refine congrArg AV.bool ?_; simp_all; done)))); (dsimp only; first | omega | exact ⟨by omega, Int.tmod_nonneg _ (by omega), .inl (Int.tmod_lt_of_pos _ (by omega))⟩))
theorem curOne_own (b : Nat) (code : List Int) (hcode : ByteL code) (c : TCur) (n : Int) (hn : n ≤ 1000000) (hp : c.p ≤ 7000000) : GSpec Tryd.prog 49 [AV.ptr b 0, AV.int n] [.box b 72 (curC code c)] (fun x : TCur × Bool => x.1.p ≤ c.p + 2) (fun x => [.box b 72 (curC code x.1)]) (fun x => AV.bool x.2) := by
  refine gspec_of_awp Tryd.func49 rfl Tryd.ntmps49 rfl ?_
  refine awp_seq ?_
  refine awp_region ?_
  refine sq_plain rfl rfl rfl (w_assign rfl ev_cb) ?_
  refine sq_nil ?_
  refine awp_seq ?_
  refine awp_region ?_
  refine sq_plain rfl rfl rfl (w_move rfl (ev_tmp rfl)) ?_
  refine sq_plain rfl rfl rfl (w_move rfl (ev_tmp rfl)) ?_
  refine sq_callG [0] rfl rfl rfl rfl Tryd.call73 rfl (curPick_own _ _ hcode _ _ (by omega) (by omega)) (evl_cons (ev_tmp rfl) (evl_cons (ev_tmp rfl) evl_nil)) rfl ?_
  intro x7 ok7
  refine sq_plain rfl rfl rfl (w_eql rfl (ev_tmp rfl) ev_ci) ?_
  refine sq_plain rfl rfl rfl (w_assign rfl (ev_tmp rfl)) ?_
  refine sq_nil ?_
  refine awp_ret ?_
  (refine retG [0] ((_, _)) ?_ rfl (by first | (dsimp only; rfl) | rfl) (resR rfl (rv_tmp' rfl (by rfl))); exact ok7.1)
theorem curOf_own (b : Nat) (code : List Int) (hcode : ByteL code) (c : TCur) (l : List Str) (hl : (∀ s ∈ l, s.length ≤ 64) ∧ 1 ≤ l.length ∧ l.length ≤ 1000) (hp : c.p ≤ 7000000) : GSpec Tryd.prog 93 [AV.ptr b 0, strs l] [.box b 72 (curC code c)] (fun x : TCur × Str => x.1.p ≤ c.p + 2 ∧ x.2.length ≤ 64) (fun x => [.box b 72 (curC code x.1)]) (fun x => AV.str x.2) := by
  obtain ⟨hls, hl1, hl2⟩ := hl
  refine gspec_of_awp Tryd.func93 rfl Tryd.ntmps93 rfl ?_
  refine awp_seq ?_
  refine awp_region ?_
  refine sq_plain rfl rfl rfl (w_assign rfl (ev_cs' (l := []) rfl)) ?_
  refine sq_nil ?_
  refine awp_seq ?_
  refine awp_region ?_
  refine sq_plain rfl rfl rfl (w_move rfl (ev_tmp rfl)) ?_
  refine sq_plain rfl rfl rfl (w_move rfl (ev_tmp rfl)) ?_
  refine sq_plain rfl rfl rfl (w_move rfl (ev_tmp rfl)) ?_
  refine sq_plain rfl rfl rfl (w_llen rfl Tryd.underlying30 (ev_tmp rfl)) ?_
  refine sq_callG [0] rfl rfl rfl rfl Tryd.call73 rfl (curPick_own _ _ hcode _ _ (by simp only [List.length_map]; omega) (by omega)) (evl_cons (ev_tmp rfl) (evl_cons (ev_tmp rfl) evl_nil)) rfl ?_
  intro x9 ok9
  simp only [List.length_map] at ok9
  obtain ⟨y, hy⟩ := get_some (show x9.2.toNat < l.length by omega)
  refine sq_plain rfl rfl rfl (w_idxm rfl Tryd.underlying30 Tryd.sizeOf9 (ev_tmp rfl) (ev_tmp rfl) hy (by omega)) ?_
  refine sq_plain rfl rfl rfl (w_loadE1 rfl (ev_tmp rfl) Tryd.isAgg9 rfl) ?_
  refine sq_plain rfl rfl rfl (w_assign rfl (ev_tmp rfl)) ?_
  refine sq_nil ?_
  refine awp_ret ?_
  (refine retG [0] ((_, _)) ?_ rfl (by first | (dsimp only; rfl) | rfl) (resR rfl (rv_tmp' rfl (by rfl))); exact ⟨ok9.1, hls _ (List.mem_of_getElem? hy)⟩)
theorem curAmong_own (b : Nat) (code : List Int) (hcode : ByteL code) (c : TCur) (l : List Int) (hl : 1 ≤ l.length ∧ l.length ≤ 1000) (hp : c.p ≤ 7000000) : GSpec Tryd.prog 74 [AV.ptr b 0, ints l] [.box b 72 (curC code c)] (fun x : TCur × Int => x.1.p ≤ c.p + 2 ∧ x.2 ∈ l) (fun x => [.box b 72 (curC code x.1)]) (fun x => AV.int x.2) := by
  obtain ⟨hl1, hl2⟩ := hl
  refine gspec_of_awp Tryd.func74 rfl Tryd.ntmps74 rfl ?_
  refine awp_seq ?_
  refine awp_region ?_
  refine sq_plain rfl rfl rfl (w_assign rfl ev_ci) ?_
  refine sq_nil ?_
  refine awp_seq ?_
  refine awp_region ?_
  refine sq_plain rfl rfl rfl (w_move rfl (ev_tmp rfl)) ?_
  refine sq_plain rfl rfl rfl (w_move rfl (ev_tmp rfl)) ?_
  refine sq_plain rfl rfl rfl (w_move rfl (ev_tmp rfl)) ?_
  refine sq_plain rfl rfl rfl (w_llen rfl Tryd.underlying31 (ev_tmp rfl)) ?_
  refine sq_callG [0] rfl rfl rfl rfl Tryd.call73 rfl (curPick_own _ _ hcode _ _ (by simp only [List.length_map]; omega) (by omega)) (evl_cons (ev_tmp rfl) (evl_cons (ev_tmp rfl) evl_nil)) rfl ?_
  intro x9 ok9
  simp only [List.length_map] at ok9
  obtain ⟨y, hy⟩ := get_some (show x9.2.toNat < l.length by omega)
  refine sq_plain rfl rfl rfl (w_idxm rfl Tryd.underlying31 Tryd.sizeOf3 (ev_tmp rfl) (ev_tmp rfl) hy (by omega)) ?_
  refine sq_plain rfl rfl rfl (w_loadE1 rfl (ev_tmp rfl) Tryd.isAgg3 rfl) ?_
  refine sq_plain rfl rfl rfl (w_assign rfl (ev_tmp rfl)) ?_
  refine sq_nil ?_
  refine awp_ret ?_
  (refine retG [0] ((_, _)) ?_ rfl (by first | (dsimp only; rfl) | rfl) (resR rfl (rv_tmp' rfl (by rfl))); exact ⟨ok9.1, List.mem_of_getElem? hy⟩)
theorem curKey_own (b : Nat) (code : List Int) (hcode : ByteL code) (c : TCur) (hp : c.p ≤ 6000000) : GSpec Tryd.prog 76 [AV.ptr b 0] [.box b 72 (curC code c)] (fun x : TCur × Str => x.1.p ≤ c.p + 2 ∧ x.2.length ≤ 64) (fun x => [.box b 72 (curC code x.1)]) (fun x => AV.str x.2) := by
  refine gspec_of_awp Tryd.func76 rfl Tryd.ntmps76 rfl ?_
  refine awp_seq ?_
  refine awp_region ?_
  refine sq_plain rfl rfl rfl (w_assign rfl (ev_cs' (l := []) rfl)) ?_
  refine sq_nil ?_
  refine awp_seq ?_
  refine awp_region ?_
  refine sq_plain rfl rfl rfl (w_move rfl (ev_tmp rfl)) ?_
  refine sq_plain rfl rfl rfl (w_bslice rfl Tryd.underlying30 Tryd.sizeOf9 Tryd.zeroValue9 rfl rfl rfl rfl (bp_cons (ev_cs' (l := [97]) rfl) (as_str _) (bp_cons (ev_cs' (l := [98]) rfl) (as_str _) (bp_cons (ev_cs' (l := [99]) rfl) (as_str _) (bp_cons (ev_cs' (l := [109]) rfl) (as_str _) (bp_cons (ev_cs' (l := [110]) rfl) (as_str _) (bp_cons (ev_cs' (l := [122]) rfl) (as_str _) (bp_cons (ev_cs' (l := [114, 47, 49]) rfl) (as_str _) (bp_cons (ev_cs' (l := [105, 47, 120, 47, 49]) rfl) (as_str _) bp_nil)))))))) rfl rfl) ?_
  refine sq_callG [0] rfl rfl rfl rfl Tryd.call93 rfl (curOf_own _ _ hcode _ ([[97], [98], [99], [109], [110], [122], [114, 47, 49], [105, 47, 120, 47, 49]] : List Str) (by decide) (by omega)) (evl_cons (ev_tmp rfl) (evl_cons (ev_tmp rfl) evl_nil)) rfl ?_
  intro x5 ok5
  refine sq_plain rfl rfl rfl (w_assign rfl (ev_tmp rfl)) ?_
  refine sq_nil ?_
  refine awp_ret ?_
  (refine retG [0] ((_, _)) ?_ rfl (by first | (dsimp only; rfl) | rfl) (resR rfl (rv_tmp' rfl (by rfl))); exact ok5)
end Go.Proofs.YtdgoejkijpllpaaDoor

set_option linter.unusedVariables false
set_option linter.unusedSimpArgs false
set_option maxRecDepth 100000
namespace Go.Proofs.YtdgoejkijpllpaaDoor
open Go Go.AV Go.M
attribute [local irreducible] OpW OpA OpS AWP FSpec ESpec GSpec OpE RetOk RetOkG RvDen Le Ev GuardIs SrcIs
end Go.Proofs.YtdgoejkijpllpaaDoor

set_option linter.unusedVariables false
set_option linter.unusedSimpArgs false
set_option maxRecDepth 100000
namespace Go.Proofs.YtdgoejkijpllpaaDoor
open Go Go.AV Go.M
attribute [local irreducible] OpW OpA OpS AWP FSpec ESpec GSpec OpE RetOk RetOkG RvDen Le Ev GuardIs SrcIs Int.tmod Int.tdiv IntKind.wrap bandI
end Go.Proofs.YtdgoejkijpllpaaDoor

set_option linter.unusedVariables false
set_option linter.unusedSimpArgs false
set_option maxRecDepth 100000
namespace Go.M
open Go.AV
theorem spoil_a (t : Str) (i : Nat) (y : UInt8) : ((t.take i ++ [y]) ++ t.drop i).length = t.length + 1 := by
  simp only [List.length_append, List.length_cons, List.length_nil, List.length_take, List.length_drop]; omega
theorem spoil_b (t : Str) (i : Nat) (y : UInt8) : ((t.take i ++ [y]) ++ t.drop (i + 1)).length ≤ t.length + 1 := by
  simp only [List.length_append, List.length_cons, List.length_nil, List.length_take, List.length_drop]; omega
theorem spoil_c (t : Str) (i : Nat) : (t.take i ++ t.drop (i + 1)).length ≤ t.length + 1 := by
  simp only [List.length_append, List.length_take, List.length_drop]; omega
end Go.M
namespace Go.Proofs.YtdgoejkijpllpaaDoor
open Go Go.AV Go.M
attribute [local irreducible] OpW OpA OpS AWP FSpec ESpec GSpec OpE RetOk RetOkG RvDen Le Ev GuardIs SrcIs Int.tmod Int.tdiv IntKind.wrap bandI
theorem curSpoilt_own (b : Nat) (code : List Int) (hcode : ByteL code) (c : TCur) (t w : Str) (ht : t.length ≤ 500000) (hw : 1 ≤ w.length ∧ w.length ≤ 1000) (hp : c.p ≤ 5000000) : GSpec Tryd.prog 50 [AV.ptr b 0, AV.str t, AV.str w] [.box b 72 (curC code c)] (fun x : TCur × Str => x.1.p ≤ c.p + 20 ∧ x.2.length ≤ t.length + 2) (fun x => [.box b 72 (curC code x.1)]) (fun x => AV.str x.2) := by
  refine gspec_of_awp Tryd.func50 rfl Tryd.ntmps50 rfl ?_
  refine awp_seq ?_
  refine awp_region ?_
  refine sq_plain rfl rfl rfl (w_assign rfl (ev_cs' (l := []) rfl)) ?_
  refine sq_nil ?_
  refine awp_seq ?_
  refine awp_seq ?_
  refine awp_region ?_
  refine sq_plain rfl rfl rfl (w_move rfl (ev_tmp rfl)) ?_
  refine sq_callG [0] rfl rfl rfl rfl Tryd.call73 rfl (curPick_own _ _ hcode _ _ (by omega) (by omega)) (evl_cons (ev_tmp rfl) (evl_cons ev_ci evl_nil)) rfl ?_
  intro x11 ok11
  refine sq_plain rfl rfl rfl (w_addi rfl ev_ci (ev_tmp rfl) (by first | omega | ((try simp only [List.length_map, List.length_take, List.length_cons, List.length_nil, chunks_len, szR] at *); omega) | (have hc2 := hc; simp only [Bool.and_eq_true, Bool.or_eq_true, Bool.or_eq_false_iff, Bool.and_eq_false_iff, Bool.not_eq_true', Bool.not_eq_false', decide_eq_true_eq, decide_eq_false_iff_not, beq_iff_eq, bne_iff_ne, List.length_map, List.length_take] at hc2; omega))) ?_
  refine sq_plain rfl rfl rfl (w_assign rfl (ev_tmp rfl)) ?_
  refine sq_nil ?_
  refine awp_block ?_
  refine awp_loop_i3 [(0, _), (2, _), (6, _)] _ (fun (n : Int) (cc : TCur) (u : Str) => (0 ≤ n ∧ n ≤ 2) ∧ cc.p + 6 * n ≤ c.p + 16 ∧ (u.length : Int) + n ≤ t.length + 2) (fun (n : Int) (cc : TCur) (u : Str) => [.box b 72 (curC code cc)]) (fun (n : Int) (cc : TCur) (u : Str) => [(1, AV.str u), (7, AV.int n)]) (fun (n : Int) (cc : TCur) (u : Str) => n.toNat) (1 + x11.2) (x11.1) (t) ?_ (le_eq (by rfl) ⟨rfl, rfl, rfl, rfl, rfl, trivial⟩) ?_
  · exact ⟨by omega, by omega, by omega⟩
  intro n cc u hinv
  refine awp_seq ?_
  refine awp_seq ?_
  refine awp_region ?_
  refine sq_plain rfl rfl rfl (w_move rfl (ev_tmp rfl)) ?_
  refine sq_plain rfl rfl rfl (w_gtr rfl (ev_tmp rfl) ev_ci) ?_
  refine sq_plain rfl rfl rfl (w_move rfl (ev_tmp rfl)) ?_
  refine sq_grd rfl rfl (guard_t rfl rfl rfl) (fun hc => w_move rfl (ev_tmp rfl)) ?_
  refine sq_grd rfl rfl (guard_t rfl rfl rfl) (fun hc => w_slen rfl Tryd.underlying9 (ev_whn rfl hc)) ?_
  refine sq_grd rfl rfl (guard_t rfl rfl rfl) (fun hc => w_gtr rfl (ev_whn rfl hc) ev_ci) ?_
  refine sq_plain rfl rfl rfl (w_and rfl (ev_tmp rfl) (evif_w rfl)) ?_
  refine sq_nil ?_
  refine awp_cond (ev_tmp rfl) ?_ ?_
  · intro h19
    simp only [Bool.and_eq_true, decide_eq_true_eq] at h19
    obtain ⟨hn0, hu0⟩ := h19
    refine awp_skip ?_
    refine awp_seq ?_
    refine awp_block ?_
    refine awp_seq ?_
    refine awp_region ?_
    refine sq_plain rfl rfl rfl (w_move rfl (ev_tmp rfl)) ?_
    refine sq_plain rfl rfl rfl (w_move rfl (ev_tmp rfl)) ?_
    refine sq_plain rfl rfl rfl (w_slen rfl Tryd.underlying9 (ev_tmp rfl)) ?_
    refine sq_callG [0] rfl rfl rfl rfl Tryd.call73 rfl (curPick_own _ _ hcode _ _ (by omega) (by omega)) (evl_cons (ev_tmp rfl) (evl_cons (ev_tmp rfl) evl_nil)) rfl ?_
    intro x25 ok25
    refine sq_plain rfl rfl rfl (w_assign rfl (ev_tmp rfl)) ?_
    refine sq_nil ?_
    refine awp_seq ?_
    refine awp_region ?_
    refine sq_plain rfl rfl rfl (w_move rfl (ev_tmp rfl)) ?_
    refine sq_plain rfl rfl rfl (w_move rfl (ev_tmp rfl)) ?_
    refine sq_plain rfl rfl rfl (w_move rfl (ev_tmp rfl)) ?_
    refine sq_plain rfl rfl rfl (w_slen rfl Tryd.underlying9 (ev_tmp rfl)) ?_
    refine sq_callG [0] rfl rfl rfl rfl Tryd.call73 rfl (curPick_own _ _ hcode _ _ (by omega) (by omega)) (evl_cons (ev_tmp rfl) (evl_cons (ev_tmp rfl) evl_nil)) rfl ?_
    intro x30 ok30
    obtain ⟨y, hy⟩ := get_some (show x30.2.toNat < w.length by omega)
    refine sq_plain rfl rfl rfl (w_sidx rfl Tryd.underlying9 (ev_tmp rfl) (ev_tmp rfl) (by omega) hy) ?_
    refine sq_plain rfl rfl rfl (w_bslice rfl Tryd.underlying44 Tryd.sizeOf5 Tryd.zeroValue5 rfl rfl rfl rfl (bp_cons (ev_tmp rfl) (as_ik _ _) bp_nil) rfl rfl) ?_
    refine sq_plain rfl rfl rfl (w_convB (bs := [y]) rfl Tryd.underlying44 Tryd.underlying5 Tryd.underlying9 (ev_tmp rfl)) ?_
    refine sq_plain rfl rfl rfl (w_assign rfl (ev_tmp rfl)) ?_
    refine sq_nil ?_
    refine awp_seq ?_
    refine awp_region ?_
    refine sq_plain rfl rfl rfl (w_move rfl (ev_tmp rfl)) ?_
    refine sq_callG [0] rfl rfl rfl rfl Tryd.call73 rfl (curPick_own _ _ hcode _ _ (by omega) (by omega)) (evl_cons (ev_tmp rfl) (evl_cons ev_ci evl_nil)) rfl ?_
    intro x35 ok35
    refine sq_nil ?_
    refine awp_block ?_
    refine awp_seq ?_
    refine awp_region ?_
    refine sq_plain rfl rfl rfl (w_eql rfl (ev_tmp rfl) ev_ci) ?_
    refine sq_plain rfl rfl rfl (w_assign rfl (ev_tmp rfl)) ?_
    refine sq_nil ?_
    refine awp_cond (ev_tmp rfl) ?_ ?_
    · intro h44
      have k44 := eq_of_beqt h44; try simp only [List.length_map] at k44
      refine awp_region_any (by kernel_rfl) (by kernel_rfl) rfl ?_
      refine ch_plain rfl rfl (w_move rfl (ev_tmp rfl)) ?_
      refine ch_plain rfl rfl (w_move rfl (ev_tmp rfl)) ?_
      refine ch_plain rfl rfl (w_ssl_hi rfl Tryd.underlying9 (ev_tmp rfl) (ev_tmp rfl) (by first | omega | ((try simp only [List.length_map, List.length_take, List.length_cons, List.length_nil, chunks_len, szR] at *); omega) | (have hc2 := hc; simp only [Bool.and_eq_true, Bool.or_eq_true, Bool.or_eq_false_iff, Bool.and_eq_false_iff, Bool.not_eq_true', Bool.not_eq_false', decide_eq_true_eq, decide_eq_false_iff_not, beq_iff_eq, bne_iff_ne, List.length_map, List.length_take] at hc2; omega)) (by first | omega | ((try simp only [List.length_map, List.length_take, List.length_cons, List.length_nil, chunks_len, szR] at *); omega) | (have hc2 := hc; simp only [Bool.and_eq_true, Bool.or_eq_true, Bool.or_eq_false_iff, Bool.and_eq_false_iff, Bool.not_eq_true', Bool.not_eq_false', decide_eq_true_eq, decide_eq_false_iff_not, beq_iff_eq, bne_iff_ne, List.length_map, List.length_take] at hc2; omega))) ?_
      refine ch_plain rfl rfl (w_move rfl (ev_tmp rfl)) ?_
      refine ch_plain rfl rfl (w_cat rfl (ev_tmp rfl) (ev_tmp rfl) (by first | omega | (simp only [List.length_append, List.length_take, List.length_drop, List.length_cons, List.length_nil]; omega))) ?_
      refine ch_plain rfl rfl (w_move rfl (ev_tmp rfl)) ?_
      refine ch_plain rfl rfl (w_move rfl (ev_tmp rfl)) ?_
      refine ch_plain rfl rfl (w_ssl_lo rfl Tryd.underlying9 (ev_tmp rfl) (ev_tmp rfl) (by first | omega | ((try simp only [List.length_map, List.length_take, List.length_cons, List.length_nil, chunks_len, szR] at *); omega) | (have hc2 := hc; simp only [Bool.and_eq_true, Bool.or_eq_true, Bool.or_eq_false_iff, Bool.and_eq_false_iff, Bool.not_eq_true', Bool.not_eq_false', decide_eq_true_eq, decide_eq_false_iff_not, beq_iff_eq, bne_iff_ne, List.length_map, List.length_take] at hc2; omega)) (by first | omega | ((try simp only [List.length_map, List.length_take, List.length_cons, List.length_nil, chunks_len, szR] at *); omega) | (have hc2 := hc; simp only [Bool.and_eq_true, Bool.or_eq_true, Bool.or_eq_false_iff, Bool.and_eq_false_iff, Bool.not_eq_true', Bool.not_eq_false', decide_eq_true_eq, decide_eq_false_iff_not, beq_iff_eq, bne_iff_ne, List.length_map, List.length_take] at hc2; omega))) ?_
      refine ch_plain rfl rfl (w_cat rfl (ev_tmp rfl) (ev_tmp rfl) (by first | omega | (simp only [List.length_append, List.length_take, List.length_drop, List.length_cons, List.length_nil]; omega))) ?_
      refine ch_plain rfl rfl (w_assign rfl (ev_tmp rfl)) ?_
      refine ch_nil ?_
      refine awp_region ?_
      refine sq_plain rfl rfl rfl (w_move rfl (ev_tmp rfl)) ?_
      refine sq_plain rfl rfl rfl (w_subi rfl (ev_tmp rfl) ev_ci (by first | omega | ((try simp only [List.length_map, List.length_take, List.length_cons, List.length_nil, chunks_len, szR] at *); omega) | (have hc2 := hc; simp only [Bool.and_eq_true, Bool.or_eq_true, Bool.or_eq_false_iff, Bool.and_eq_false_iff, Bool.not_eq_true', Bool.not_eq_false', decide_eq_true_eq, decide_eq_false_iff_not, beq_iff_eq, bne_iff_ne, List.length_map, List.length_take] at hc2; omega))) ?_
      refine sq_plain rfl rfl rfl (w_assign rfl (ev_tmp rfl)) ?_
      refine sq_nil ?_
      refine round_end3 n cc u (n - 1) (x35.1) ((u.take x25.2.toNat ++ [y]) ++ u.drop x25.2.toNat) ?_ ?_ (le_eq (by rfl) ⟨rfl, rfl, rfl, rfl, rfl, trivial⟩)
      · exact ⟨by omega, by omega, by (have := spoil_a u x25.2.toNat y; omega)⟩
      · omega
    · intro h44
      have k44 := ne_of_beqf h44; try simp only [List.length_map] at k44
      refine awp_seq ?_
      refine awp_region ?_
      refine sq_plain rfl rfl rfl (w_eql rfl (ev_tmp rfl) ev_ci) ?_
      refine sq_plain rfl rfl rfl (w_assign rfl (ev_tmp rfl)) ?_
      refine sq_nil ?_
      refine awp_cond (ev_tmp rfl) ?_ ?_
      · intro h55
        have k55 := eq_of_beqt h55; try simp only [List.length_map] at k55
        refine awp_region_any (by kernel_rfl) (by kernel_rfl) rfl ?_
        refine ch_plain rfl rfl (w_move rfl (ev_tmp rfl)) ?_
        refine ch_plain rfl rfl (w_move rfl (ev_tmp rfl)) ?_
        refine ch_plain rfl rfl (w_ssl_hi rfl Tryd.underlying9 (ev_tmp rfl) (ev_tmp rfl) (by first | omega | ((try simp only [List.length_map, List.length_take, List.length_cons, List.length_nil, chunks_len, szR] at *); omega) | (have hc2 := hc; simp only [Bool.and_eq_true, Bool.or_eq_true, Bool.or_eq_false_iff, Bool.and_eq_false_iff, Bool.not_eq_true', Bool.not_eq_false', decide_eq_true_eq, decide_eq_false_iff_not, beq_iff_eq, bne_iff_ne, List.length_map, List.length_take] at hc2; omega)) (by first | omega | ((try simp only [List.length_map, List.length_take, List.length_cons, List.length_nil, chunks_len, szR] at *); omega) | (have hc2 := hc; simp only [Bool.and_eq_true, Bool.or_eq_true, Bool.or_eq_false_iff, Bool.and_eq_false_iff, Bool.not_eq_true', Bool.not_eq_false', decide_eq_true_eq, decide_eq_false_iff_not, beq_iff_eq, bne_iff_ne, List.length_map, List.length_take] at hc2; omega))) ?_
        refine ch_plain rfl rfl (w_move rfl (ev_tmp rfl)) ?_
        refine ch_plain rfl rfl (w_cat rfl (ev_tmp rfl) (ev_tmp rfl) (by first | omega | (simp only [List.length_append, List.length_take, List.length_drop, List.length_cons, List.length_nil]; omega))) ?_
        refine ch_plain rfl rfl (w_move rfl (ev_tmp rfl)) ?_
        refine ch_plain rfl rfl (w_move rfl (ev_tmp rfl)) ?_
        refine ch_plain rfl rfl (w_addi rfl (ev_tmp rfl) ev_ci (by first | omega | ((try simp only [List.length_map, List.length_take, List.length_cons, List.length_nil, chunks_len, szR] at *); omega) | (have hc2 := hc; simp only [Bool.and_eq_true, Bool.or_eq_true, Bool.or_eq_false_iff, Bool.and_eq_false_iff, Bool.not_eq_true', Bool.not_eq_false', decide_eq_true_eq, decide_eq_false_iff_not, beq_iff_eq, bne_iff_ne, List.length_map, List.length_take] at hc2; omega))) ?_
        refine ch_plain rfl rfl (w_ssl_lo rfl Tryd.underlying9 (ev_tmp rfl) (ev_tmp rfl) (by first | omega | ((try simp only [List.length_map, List.length_take, List.length_cons, List.length_nil, chunks_len, szR] at *); omega) | (have hc2 := hc; simp only [Bool.and_eq_true, Bool.or_eq_true, Bool.or_eq_false_iff, Bool.and_eq_false_iff, Bool.not_eq_true', Bool.not_eq_false', decide_eq_true_eq, decide_eq_false_iff_not, beq_iff_eq, bne_iff_ne, List.length_map, List.length_take] at hc2; omega)) (by first | omega | ((try simp only [List.length_map, List.length_take, List.length_cons, List.length_nil, chunks_len, szR] at *); omega) | (have hc2 := hc; simp only [Bool.and_eq_true, Bool.or_eq_true, Bool.or_eq_false_iff, Bool.and_eq_false_iff, Bool.not_eq_true', Bool.not_eq_false', decide_eq_true_eq, decide_eq_false_iff_not, beq_iff_eq, bne_iff_ne, List.length_map, List.length_take] at hc2; omega))) ?_
        refine ch_plain rfl rfl (w_cat rfl (ev_tmp rfl) (ev_tmp rfl) (by first | omega | (simp only [List.length_append, List.length_take, List.length_drop, List.length_cons, List.length_nil]; omega))) ?_
        refine ch_plain rfl rfl (w_assign rfl (ev_tmp rfl)) ?_
        refine ch_nil ?_
        refine awp_region ?_
        refine sq_plain rfl rfl rfl (w_move rfl (ev_tmp rfl)) ?_
        refine sq_plain rfl rfl rfl (w_subi rfl (ev_tmp rfl) ev_ci (by first | omega | ((try simp only [List.length_map, List.length_take, List.length_cons, List.length_nil, chunks_len, szR] at *); omega) | (have hc2 := hc; simp only [Bool.and_eq_true, Bool.or_eq_true, Bool.or_eq_false_iff, Bool.and_eq_false_iff, Bool.not_eq_true', Bool.not_eq_false', decide_eq_true_eq, decide_eq_false_iff_not, beq_iff_eq, bne_iff_ne, List.length_map, List.length_take] at hc2; omega))) ?_
        refine sq_plain rfl rfl rfl (w_assign rfl (ev_tmp rfl)) ?_
        refine sq_nil ?_
        refine round_end3 n cc u (n - 1) (x35.1) ((u.take x25.2.toNat ++ [y]) ++ u.drop (x25.2 + 1).toNat) ?_ ?_ (le_eq (by rfl) ⟨rfl, rfl, rfl, rfl, rfl, trivial⟩)
        · exact ⟨by omega, by omega, by (rw [show (x25.2 + 1).toNat = x25.2.toNat + 1 by omega]; have := spoil_b u x25.2.toNat y; omega)⟩
        · omega
      · intro h55
        have k55 := ne_of_beqf h55; try simp only [List.length_map] at k55
        refine awp_region_any (by kernel_rfl) (by kernel_rfl) rfl ?_
        refine ch_plain rfl rfl (w_move rfl (ev_tmp rfl)) ?_
        refine ch_plain rfl rfl (w_move rfl (ev_tmp rfl)) ?_
        refine ch_plain rfl rfl (w_ssl_hi rfl Tryd.underlying9 (ev_tmp rfl) (ev_tmp rfl) (by first | omega | ((try simp only [List.length_map, List.length_take, List.length_cons, List.length_nil, chunks_len, szR] at *); omega) | (have hc2 := hc; simp only [Bool.and_eq_true, Bool.or_eq_true, Bool.or_eq_false_iff, Bool.and_eq_false_iff, Bool.not_eq_true', Bool.not_eq_false', decide_eq_true_eq, decide_eq_false_iff_not, beq_iff_eq, bne_iff_ne, List.length_map, List.length_take] at hc2; omega)) (by first | omega | ((try simp only [List.length_map, List.length_take, List.length_cons, List.length_nil, chunks_len, szR] at *); omega) | (have hc2 := hc; simp only [Bool.and_eq_true, Bool.or_eq_true, Bool.or_eq_false_iff, Bool.and_eq_false_iff, Bool.not_eq_true', Bool.not_eq_false', decide_eq_true_eq, decide_eq_false_iff_not, beq_iff_eq, bne_iff_ne, List.length_map, List.length_take] at hc2; omega))) ?_
        refine ch_plain rfl rfl (w_move rfl (ev_tmp rfl)) ?_
        refine ch_plain rfl rfl (w_move rfl (ev_tmp rfl)) ?_
        refine ch_plain rfl rfl (w_addi rfl (ev_tmp rfl) ev_ci (by first | omega | ((try simp only [List.length_map, List.length_take, List.length_cons, List.length_nil, chunks_len, szR] at *); omega) | (have hc2 := hc; simp only [Bool.and_eq_true, Bool.or_eq_true, Bool.or_eq_false_iff, Bool.and_eq_false_iff, Bool.not_eq_true', Bool.not_eq_false', decide_eq_true_eq, decide_eq_false_iff_not, beq_iff_eq, bne_iff_ne, List.length_map, List.length_take] at hc2; omega))) ?_
        refine ch_plain rfl rfl (w_ssl_lo rfl Tryd.underlying9 (ev_tmp rfl) (ev_tmp rfl) (by first | omega | ((try simp only [List.length_map, List.length_take, List.length_cons, List.length_nil, chunks_len, szR] at *); omega) | (have hc2 := hc; simp only [Bool.and_eq_true, Bool.or_eq_true, Bool.or_eq_false_iff, Bool.and_eq_false_iff, Bool.not_eq_true', Bool.not_eq_false', decide_eq_true_eq, decide_eq_false_iff_not, beq_iff_eq, bne_iff_ne, List.length_map, List.length_take] at hc2; omega)) (by first | omega | ((try simp only [List.length_map, List.length_take, List.length_cons, List.length_nil, chunks_len, szR] at *); omega) | (have hc2 := hc; simp only [Bool.and_eq_true, Bool.or_eq_true, Bool.or_eq_false_iff, Bool.and_eq_false_iff, Bool.not_eq_true', Bool.not_eq_false', decide_eq_true_eq, decide_eq_false_iff_not, beq_iff_eq, bne_iff_ne, List.length_map, List.length_take] at hc2; omega))) ?_
        refine ch_plain rfl rfl (w_cat rfl (ev_tmp rfl) (ev_tmp rfl) (by first | omega | (simp only [List.length_append, List.length_take, List.length_drop, List.length_cons, List.length_nil]; omega))) ?_
        refine ch_plain rfl rfl (w_assign rfl (ev_tmp rfl)) ?_
        refine ch_nil ?_
        refine awp_region ?_
        refine sq_plain rfl rfl rfl (w_move rfl (ev_tmp rfl)) ?_
        refine sq_plain rfl rfl rfl (w_subi rfl (ev_tmp rfl) ev_ci (by first | omega | ((try simp only [List.length_map, List.length_take, List.length_cons, List.length_nil, chunks_len, szR] at *); omega) | (have hc2 := hc; simp only [Bool.and_eq_true, Bool.or_eq_true, Bool.or_eq_false_iff, Bool.and_eq_false_iff, Bool.not_eq_true', Bool.not_eq_false', decide_eq_true_eq, decide_eq_false_iff_not, beq_iff_eq, bne_iff_ne, List.length_map, List.length_take] at hc2; omega))) ?_
        refine sq_plain rfl rfl rfl (w_assign rfl (ev_tmp rfl)) ?_
        refine sq_nil ?_
        refine round_end3 n cc u (n - 1) (x35.1) (u.take x25.2.toNat ++ u.drop (x25.2 + 1).toNat) ?_ ?_ (le_eq (by rfl) ⟨rfl, rfl, rfl, rfl, rfl, trivial⟩)
        · exact ⟨by omega, by omega, by (rw [show (x25.2 + 1).toNat = x25.2.toNat + 1 by omega]; have := spoil_c u x25.2.toNat; omega)⟩
        · omega
  · intro h19
    refine awp_exit ?_
    refine awp_seq ?_
    refine awp_region ?_
    refine sq_plain rfl rfl rfl (w_move rfl (ev_tmp rfl)) ?_
    refine sq_plain rfl rfl rfl (w_assign rfl (ev_tmp rfl)) ?_
    refine sq_nil ?_
    refine awp_ret ?_
    (refine retG [0] ((cc, u)) ?_ rfl (by first | (dsimp only; rfl) | rfl) (resR rfl (rv_tmp' rfl (by rfl))); exact ⟨show cc.p ≤ _ by omega, show u.length ≤ _ by omega⟩)
end Go.Proofs.YtdgoejkijpllpaaDoor

set_option linter.unusedVariables false
set_option linter.unusedSimpArgs false
set_option maxRecDepth 100000
set_option maxHeartbeats 1000000
namespace Go.Proofs.YtdgoejkijpllpaaDoor
open Go Go.AV Go.M
attribute [local irreducible] OpW OpA OpS AWP FSpec ESpec GSpec OpE RetOk RetOkG RvDen Le Ev GuardIs SrcIs Int.tmod IntKind.wrap bandI
theorem curVal_own (b : Nat) (code : List Int) (hcode : ByteL code) (c : TCur) (hp : c.p ≤ 6000000) : GSpec Tryd.prog 92 [AV.ptr b 0] [.box b 72 (curC code c)] (fun x : TCur × Str => x.1.p ≤ c.p + 2 ∧ x.2.length ≤ 64) (fun x => [.box b 72 (curC code x.1)]) (fun x => AV.str x.2) := by
  refine gspec_of_awp Tryd.func92 rfl Tryd.ntmps92 rfl ?_
  refine awp_seq ?_
  refine awp_region ?_
  refine sq_plain rfl rfl rfl (w_assign rfl (ev_cs' (l := []) rfl)) ?_
  refine sq_nil ?_
  refine awp_seq ?_
  refine awp_region ?_
  refine sq_plain rfl rfl rfl (w_move rfl (ev_tmp rfl)) ?_
  refine sq_plain rfl rfl rfl (w_bslice rfl Tryd.underlying30 Tryd.sizeOf9 Tryd.zeroValue9 rfl rfl rfl rfl (bp_cons (ev_cs' (l := []) rfl) (as_str _) (bp_cons (ev_cs' (l := [49]) rfl) (as_str _) (bp_cons (ev_cs' (l := [55]) rfl) (as_str _) (bp_cons (ev_cs' (l := [49, 48]) rfl) (as_str _) (bp_cons (ev_cs' (l := [45, 51]) rfl) (as_str _) (bp_cons (ev_cs' (l := [120]) rfl) (as_str _) (bp_cons (ev_cs' (l := [97, 44, 98, 95, 99]) rfl) (as_str _) bp_nil))))))) rfl rfl) ?_
  refine sq_callG [0] rfl rfl rfl rfl Tryd.call93 rfl (curOf_own _ _ hcode _ ([[], [49], [55], [49, 48], [45, 51], [120], [97, 44, 98, 95, 99]] : List Str) (by decide) (by omega)) (evl_cons (ev_tmp rfl) (evl_cons (ev_tmp rfl) evl_nil)) rfl ?_
  intro x5 ok5
  refine sq_plain rfl rfl rfl (w_assign rfl (ev_tmp rfl)) ?_
  refine sq_nil ?_
  refine awp_ret ?_
  (refine retG [0] ((_, _)) ?_ rfl (by first | (dsimp only; rfl) | rfl) (resR rfl (rv_tmp' rfl (by rfl))); exact ok5)
theorem curWrite_own (b : Nat) (code : List Int) (hcode : ByteL code) (c : TCur) (key : Str) (hp : c.p ≤ 5000000) : GSpec Tryd.prog 75 [AV.ptr b 0, AV.str key] [.box b 72 (curC code c)] (fun x : TCur × TWrite => x.1.p ≤ c.p + 4 ∧ x.2.Key = key ∧ x.2.Val.length ≤ 64) (fun x => [.box b 72 (curC code x.1)]) (fun x => AV.agg x.2.cs) := by
  refine gspec_of_awp Tryd.func75 rfl Tryd.ntmps75 rfl ?_
  refine awp_seq ?_
  refine awp_region ?_
  refine sq_alloc rfl rfl rfl rfl Tryd.zeroValue90 rfl ?_
  intro b4
  refine sq_nil ?_
  refine awp_seq ?_
  refine awp_seq ?_
  refine awp_region ?_
  refine sq_plain rfl rfl rfl (w_move rfl (ev_tmp rfl)) ?_
  refine sq_callG [1] rfl rfl rfl rfl Tryd.call49 rfl (curOne_own _ _ hcode _ _ (by omega) (by omega)) (evl_cons (ev_tmp rfl) (evl_cons ev_ci evl_nil)) rfl ?_
  intro x6 ok6
  refine sq_nil ?_
  refine awp_cond (ev_tmp rfl) ?_ ?_
  · intro h6
    refine awp_seq ?_
    refine awp_region ?_
    refine sq_plain rfl rfl rfl (w_move rfl (ev_tmp rfl)) ?_
    refine sq_plain rfl rfl rfl (w_build (places := #[(0, 1), (1, 1), (2, 1)]) rfl Tryd.underlying90 Tryd.zeroValue90 (fun w => by kernel_rfl) rfl (bp_cons (ev_tmp rfl) (as_str _) (bp_cons ev_cb (as_bool _) bp_nil)) rfl) ?_
    refine sq_storeB0 1 rfl rfl rfl (ev_tmp rfl) (ev_tmp rfl) (as_agg _) rfl Tryd.sizeOf90 rfl ?_
    refine sq_nil ?_
    refine awp_ret ?_
    (refine retG [0] ((_, ⟨_, _, _⟩)) ?_ rfl (by first | (dsimp only; rfl) | rfl) (resR rfl (rv_cell (ys := _) 1 rfl rfl Tryd.isAgg90 Tryd.sizeOf90 rfl)); (dsimp only; first | exact ⟨by omega, rfl, by simp⟩ | exact ⟨by omega, rfl, ok11.2⟩))
  · intro h6
    refine awp_skip ?_
    refine awp_seq ?_
    refine awp_region ?_
    refine sq_plain rfl rfl rfl (w_move rfl (ev_tmp rfl)) ?_
    refine sq_plain rfl rfl rfl (w_move rfl (ev_tmp rfl)) ?_
    refine sq_callG [0] rfl rfl rfl rfl Tryd.call92 rfl (curVal_own _ _ hcode _ (by omega)) (evl_cons (ev_tmp rfl) evl_nil) rfl ?_
    intro x11 ok11
    refine sq_plain rfl rfl rfl (w_build (places := #[(0, 1), (1, 1), (2, 1)]) rfl Tryd.underlying90 Tryd.zeroValue90 (fun w => by kernel_rfl) rfl (bp_cons (ev_tmp rfl) (as_str _) (bp_cons (ev_tmp rfl) (as_str _) bp_nil)) rfl) ?_
    refine sq_storeB0 1 rfl rfl rfl (ev_tmp rfl) (ev_tmp rfl) (as_agg _) rfl Tryd.sizeOf90 rfl ?_
    refine sq_nil ?_
    refine awp_ret ?_
    (refine retG [0] ((_, ⟨_, _, _⟩)) ?_ rfl (by first | (dsimp only; rfl) | rfl) (resR rfl (rv_cell (ys := _) 1 rfl rfl Tryd.isAgg90 Tryd.sizeOf90 rfl)); (dsimp only; first | exact ⟨by omega, rfl, by simp⟩ | exact ⟨by omega, rfl, ok11.2⟩))
end Go.Proofs.YtdgoejkijpllpaaDoor

set_option linter.unusedVariables false
set_option linter.unusedSimpArgs false
namespace Go.M
end Go.M

set_option linter.unusedVariables false
set_option linter.unusedSimpArgs false
namespace Go.M
end Go.M

set_option linter.unusedVariables false
set_option linter.unusedSimpArgs false
namespace Go.M
end Go.M

set_option linter.unusedVariables false
set_option linter.unusedSimpArgs false
namespace Go.M
end Go.M

set_option linter.unusedVariables false
set_option linter.unusedSimpArgs false
namespace Go.M
end Go.M

set_option linter.unusedVariables false
set_option linter.unusedSimpArgs false
set_option maxRecDepth 100000
namespace Go.Proofs.YtdgoejkijpllpaaDoor
open Go Go.AV Go.M
attribute [local irreducible] OpW OpA OpS AWP FSpec ESpec RetOk RvDen Le Ev GuardIs
end Go.Proofs.YtdgoejkijpllpaaDoor

set_option linter.unusedVariables false
set_option linter.unusedSimpArgs false
set_option maxRecDepth 100000
namespace Go.Proofs.YtdgoejkijpllpaaDoor
open Go Go.AV Go.M
attribute [local irreducible] OpW OpA OpS AWP FSpec ESpec GSpec OpE RetOk RetOkG RvDen Le Ev GuardIs SrcIs
end Go.Proofs.YtdgoejkijpllpaaDoor

set_option linter.unusedVariables false
set_option linter.unusedSimpArgs false
set_option maxRecDepth 100000
namespace Go.Proofs.YtdgoejkijpllpaaDoor
open Go Go.AV Go.M
attribute [local irreducible] OpW OpA OpS AWP FSpec ESpec GSpec OpE RetOk RetOkG RvDen Le Ev GuardIs
end Go.Proofs.YtdgoejkijpllpaaDoor

set_option linter.unusedVariables false
set_option linter.unusedSimpArgs false
set_option maxRecDepth 100000
namespace Go.Proofs.YtdgoejkijpllpaaDoor
open Go Go.AV Go.M
attribute [local irreducible] OpW OpA OpS AWP FSpec ESpec GSpec OpE RetOk RetOkG RvDen Le Ev GuardIs SrcIs
end Go.Proofs.YtdgoejkijpllpaaDoor

set_option linter.unusedVariables false
set_option linter.unusedSimpArgs false
set_option maxRecDepth 100000
namespace Go.Proofs.YtdgoejkijpllpaaDoor
open Go Go.AV Go.M
attribute [local irreducible] OpW OpA OpS AWP FSpec ESpec GSpec OpE RetOk RetOkG RvDen Le Ev GuardIs SrcIs
end Go.Proofs.YtdgoejkijpllpaaDoor

set_option linter.unusedVariables false
set_option linter.unusedSimpArgs false
set_option maxRecDepth 100000
namespace Go.Proofs.YtdgoejkijpllpaaDoor
open Go Go.AV Go.M
attribute [local irreducible] OpW OpA OpS AWP FSpec ESpec GSpec OpE RetOk RetOkG RvDen Le Ev GuardIs SrcIs
end Go.Proofs.YtdgoejkijpllpaaDoor

set_option linter.unusedVariables false
set_option linter.unusedSimpArgs false
set_option maxRecDepth 100000
namespace Go.Proofs.YtdgoejkijpllpaaDoor
open Go Go.AV Go.M
attribute [local irreducible] OpW OpA OpS AWP FSpec ESpec GSpec OpE RetOk RetOkG RvDen Le Ev GuardIs SrcIs Int.tmod IntKind.wrap bandI
end Go.Proofs.YtdgoejkijpllpaaDoor

set_option linter.unusedVariables false
set_option linter.unusedSimpArgs false
set_option maxRecDepth 100000
set_option maxHeartbeats 1000000
namespace Go.Proofs.YtdgoejkijpllpaaDoor
open Go Go.AV Go.M
attribute [local irreducible] OpW OpA OpS AWP FSpec ESpec GSpec OpE RetOk RetOkG RvDen Le Ev GuardIs SrcIs Int.tmod Int.tdiv IntKind.wrap bandI
theorem l23Item_own (b : Nat) (code : List Int) (hcode : ByteL code) (c : TCur) (hp : c.p ≤ 4000000) : GSpec Tryd.prog 48 [AV.ptr b 0] [.box b 72 (curC code c)] (fun x : TCur × TFeedItem => x.1.p ≤ c.p + 20 ∧ x.2.size ≤ 128 ∧ (1 ≤ x.2.Time ∧ x.2.Time ≤ 30) ∧ (0 ≤ x.2.Group ∧ x.2.Group ≤ 2)) (fun x => [.box b 72 (curC code x.1)]) (fun x => AV.agg x.2.cs) := by
  refine gspec_of_awp Tryd.func48 rfl Tryd.ntmps48 rfl ?_
  refine awp_seq ?_
  refine awp_region ?_
  refine sq_alloc rfl rfl rfl rfl Tryd.zeroValue27 rfl ?_
  intro b2
  refine sq_nil ?_
  refine awp_seq ?_
  refine awp_region ?_
  refine sq_plain rfl rfl rfl (w_move rfl (ev_tmp rfl)) ?_
  refine sq_plain rfl rfl rfl (w_move rfl (ev_tmp rfl)) ?_
  refine sq_callG [1] rfl rfl rfl rfl Tryd.call76 rfl (curKey_own _ _ hcode _ (by omega)) (evl_cons (ev_tmp rfl) evl_nil) rfl ?_
  intro x6 ok6
  refine sq_callG [0] rfl rfl rfl rfl Tryd.call75 rfl (curWrite_own _ _ hcode _ _ (by omega)) (evl_cons (ev_tmp rfl) (evl_cons (ev_tmp rfl) evl_nil)) rfl ?_
  intro x7 ok7
  refine sq_alloc rfl rfl rfl rfl Tryd.zeroValue90 rfl ?_
  intro b3
  refine sq_storeB0 0 rfl rfl rfl (ev_tmp rfl) (ev_tmp rfl) (as_agg _) rfl Tryd.sizeOf90 rfl ?_
  refine sq_nil ?_
  refine awp_seq ?_
  refine awp_own (by first | (simp only [id, pick, List.eraseIdx_cons_zero, List.eraseIdx_cons_succ, List.set_cons_zero, List.set_cons_succ, List.cons_append, List.nil_append, List.getElem?_cons_zero, List.getElem?_cons_succ, List.append_nil, List.take_succ_cons, List.take_zero, List.drop_succ_cons, List.drop_zero]; exact rfl) | exact rfl) ?_
  refine AWP.le (le_pick [0, 0, 0] rfl) ?_
  refine awp_region_mix _ [(0, false), (3, false), (5, false), (6, false), (7, false), (8, false), (9, false), (10, false), (1, true), (2, false), (4, true)] (by kernel_rfl) (by kernel_rfl) rfl (invx_take 1) ?_
  refine bc_plain rfl rfl rfl (fun ext => w_move rfl (ev_tmp rfl)) ?_
  refine bc_plain rfl rfl rfl (fun ext => w_move rfl (ev_tmp rfl)) ?_
  refine bc_plain rfl rfl rfl (fun ext => w_fldBn 0 rfl Tryd.underlying90 rfl Tryd.sizeOf9 (ev_tmp rfl) rfl) ?_
  refine bc_plain rfl rfl rfl (fun ext => w_loadB1 0 rfl (ev_tmp rfl) rfl Tryd.isAgg9 rfl) ?_
  refine bc_plain rfl rfl rfl (fun ext => w_fldBn 1 rfl Tryd.underlying90 rfl Tryd.sizeOf9 (ev_tmp rfl) rfl) ?_
  refine bc_plain rfl rfl rfl (fun ext => w_loadB1 0 rfl (ev_tmp rfl) rfl Tryd.isAgg9 rfl) ?_
  refine bc_plain rfl rfl rfl (fun ext => w_fldBn 2 rfl Tryd.underlying90 rfl Tryd.sizeOf4 (ev_tmp rfl) rfl) ?_
  refine bc_plain rfl rfl rfl (fun ext => w_loadB1 0 rfl (ev_tmp rfl) rfl Tryd.isAgg4 rfl) ?_
  refine bc_eff rfl rfl rfl (opE_call [1] rfl Tryd.call73 rfl (curPick_own _ _ hcode _ _ (by omega) (by omega)) (evl_cons (ev_tmp rfl) (evl_cons ev_ci evl_nil)) rfl) (fun a _ => (by first | exact invx_mk rfl | exact invx_mk (List.append_assoc _ _ _) | exact invx_all)) ?_
  intro x9 ok9
  refine bc_plain rfl rfl rfl (fun ext => w_addi rfl ev_ci (ev_tmp rfl) (by first | omega | ((try simp only [List.length_map, List.length_take, List.length_cons, List.length_nil, chunks_len, szR] at *); omega) | (have hc2 := hc; simp only [Bool.and_eq_true, Bool.or_eq_true, Bool.or_eq_false_iff, Bool.and_eq_false_iff, Bool.not_eq_true', Bool.not_eq_false', decide_eq_true_eq, decide_eq_false_iff_not, beq_iff_eq, bne_iff_ne, List.length_map, List.length_take] at hc2; omega))) ?_
  refine bc_eff rfl rfl rfl (opE_call [2] rfl Tryd.call73 rfl (curPick_own _ _ hcode _ _ (by omega) (by omega)) (evl_cons (ev_tmp rfl) (evl_cons ev_ci evl_nil)) rfl) (fun a _ => (by first | exact invx_mk rfl | exact invx_mk (List.append_assoc _ _ _) | exact invx_all)) ?_
  intro x12 ok12
  refine bc_nil ?_
  refine sq_plain rfl rfl rfl (w_build (places := #[(0, 1), (1, 1), (2, 1), (3, 1), (4, 1)]) rfl Tryd.underlying27 Tryd.zeroValue27 (fun w => by kernel_rfl) rfl (bp_cons (ev_tmp rfl) (as_ik _ _) (bp_cons (ev_tmp rfl) (as_ik _ _) (bp_cons (ev_tmp rfl) (as_str _) (bp_cons (ev_tmp rfl) (as_str _) (bp_cons (ev_tmp rfl) (as_bool _) bp_nil))))) rfl) ?_
  refine sq_storeB0 1 rfl rfl rfl (ev_tmp rfl) (ev_tmp rfl) (as_agg _) rfl Tryd.sizeOf27 rfl ?_
  refine sq_nil ?_
  refine awp_ret ?_
  (refine retG [2] ((_, ⟨1 + x9.2, x12.2, x7.2.Key, x7.2.Val, x7.2.Gone⟩)) ?_ rfl (by first | (dsimp only; rfl) | rfl) (resR rfl (rv_cell (ys := _) 1 rfl rfl Tryd.isAgg27 Tryd.sizeOf27 rfl)); (have hk9 : x7.2.Key.length ≤ 64 := (by rw [ok7.2.1]; omega); dsimp only [TFeedItem.size]; exact ⟨by omega, by omega, ⟨by omega, by omega⟩, by omega, by omega⟩))
end Go.Proofs.YtdgoejkijpllpaaDoor

set_option linter.unusedVariables false
set_option linter.unusedSimpArgs false
set_option maxRecDepth 100000
set_option maxHeartbeats 1000000
namespace Go.M
open Go.AV
theorem lineB_len {c : TFeedItem} (h1 : 0 ≤ c.Time ∧ c.Time ≤ 100000) (h2 : 0 ≤ c.Group ∧ c.Group ≤ 3) : (lineB c).length ≤ 20 + c.size := by
  have e1 := itoa_len (n := c.Time) (by omega)
  have e2 := itoa_len (n := c.Group) (by omega)
  unfold lineB TFeedItem.size
  split
  · simp only [List.length_append, List.length_cons, List.length_nil]; omega
  · simp only [List.length_append, List.length_cons, List.length_nil]; omega
end Go.M
namespace Go.Proofs.YtdgoejkijpllpaaDoor
open Go Go.AV Go.M
attribute [local irreducible] OpW OpA OpS AWP FSpec ESpec GSpec OpE RetOk RetOkG RvDen Le Ev GuardIs SrcIs Int.tmod Int.tdiv IntKind.wrap bandI
theorem drawGoodItem_own (code : List Int) (hcode : ByteL code) : GSpec Tryd.prog 47 [bytesI code] [] (fun x : TFeedItem => x.size ≤ 128) (fun x => []) (fun x => AV.agg x.cs) := by
  refine gspec_of_awp Tryd.func47 rfl Tryd.ntmps47 rfl ?_
  refine awp_seq ?_
  refine awp_region ?_
  refine sq_alloc rfl rfl rfl rfl Tryd.zeroValue27 rfl ?_
  intro b2
  refine sq_nil ?_
  refine awp_seq ?_
  refine awp_region ?_
  refine sq_plain rfl rfl rfl (w_move rfl (ev_tmp rfl)) ?_
  refine sq_plain rfl rfl rfl (w_build (places := #[(0, 1), (1, 1), (2, 1)]) rfl Tryd.underlying72 Tryd.zeroValue72 (fun w => by kernel_rfl) rfl (bp_cons (ev_tmp rfl) (as_list _ _) bp_nil) rfl) ?_
  refine sq_box rfl rfl rfl rfl (ev_tmp rfl) ?_
  intro b7
  refine sq_plain rfl rfl rfl (w_assign rfl (ev_tmp rfl)) ?_
  refine sq_nil ?_
  refine awp_seq ?_
  refine awp_region ?_
  refine sq_plain rfl rfl rfl (w_move rfl (ev_tmp rfl)) ?_
  refine sq_callG [0] rfl rfl rfl rfl Tryd.call48 rfl (l23Item_own _ _ hcode ⟨0, 0⟩ (by decide)) (evl_cons (ev_tmp rfl) evl_nil) rfl ?_
  intro x9 ok9
  obtain ⟨⟨c9, it⟩, hx9⟩ : ∃ z, x9 = z := ⟨_, rfl⟩
  subst hx9
  obtain ⟨hp9, hz9, _⟩ := ok9
  dsimp only at hp9 hz9 ⊢
  have hp9' : c9.p ≤ 20 := hp9
  refine sq_alloc rfl rfl rfl rfl Tryd.zeroValue27 rfl ?_
  intro b4
  refine sq_storeB0 0 rfl rfl rfl (ev_tmp rfl) (ev_tmp rfl) (as_agg _) rfl Tryd.sizeOf27 rfl ?_
  refine sq_nil ?_
  refine awp_seq ?_
  refine awp_seq ?_
  refine awp_region ?_
  refine sq_plain rfl rfl rfl (w_move rfl (ev_tmp rfl)) ?_
  refine sq_callG [1] rfl rfl rfl rfl Tryd.call73 rfl (curPick_own _ _ hcode _ _ (by omega) (by omega)) (evl_cons (ev_tmp rfl) (evl_cons ev_ci evl_nil)) rfl ?_
  intro x11 ok11
  refine sq_nil ?_
  refine awp_block ?_
  refine awp_seq ?_
  refine awp_region ?_
  refine sq_plain rfl rfl rfl (w_eql rfl (ev_tmp rfl) ev_ci) ?_
  refine sq_plain rfl rfl rfl (w_assign rfl (ev_tmp rfl)) ?_
  refine sq_nil ?_
  refine awp_cond (ev_tmp rfl) ?_ ?_
  · intro h12
    have k12 := eq_of_beqt h12; try simp only [List.length_map] at k12
    refine awp_region ?_
    refine sq_plain rfl rfl rfl (w_move rfl (ev_tmp rfl)) ?_
    refine sq_plain rfl rfl rfl (w_bslice rfl Tryd.underlying31 Tryd.sizeOf3 Tryd.zeroValue3 rfl rfl rfl rfl (bp_cons ev_ci (as_ik _ _) (bp_cons ev_ci (as_ik _ _) (bp_cons ev_ci (as_ik _ _) bp_nil))) rfl rfl) ?_
    refine sq_callG [0] rfl rfl rfl rfl Tryd.call74 rfl (curAmong_own _ _ hcode _ ([(0), (100000), (100001)] : List Int) (by decide) (by omega)) (evl_cons (ev_tmp rfl) (evl_cons (ev_tmp rfl) evl_nil)) rfl ?_
    intro x16 ok16
    refine sq_plain rfl rfl rfl (w_fldBn 0 rfl Tryd.underlying27 rfl Tryd.sizeOf3 (ev_tmp rfl) rfl) ?_
    refine sq_storeB1 1 rfl rfl rfl (ev_tmp rfl) (ev_tmp rfl) (as_ik _ _) rfl Tryd.sizeOf3 rfl ?_
    refine sq_nil ?_
    refine awp_seq ?_
    refine awp_region ?_
    refine sq_plain rfl rfl rfl (w_loadA 1 rfl (ev_tmp rfl) rfl Tryd.isAgg27 Tryd.sizeOf27 rfl) ?_
    refine sq_storeB0 2 rfl rfl rfl (ev_tmp rfl) (ev_tmp rfl) (as_agg _) rfl Tryd.sizeOf27 rfl ?_
    refine sq_nil ?_
    refine awp_ret ?_
    (refine retG [] (⟨x16.2, it.Group, it.Key, it.Val, it.Gone⟩) ?_ rfl (by first | (dsimp only; rfl) | rfl) (resR rfl (rv_cell (ys := _) 2 rfl rfl Tryd.isAgg27 Tryd.sizeOf27 rfl)); exact hz9)
  · intro h12
    have k12 := ne_of_beqf h12; try simp only [List.length_map] at k12
    refine awp_seq ?_
    refine awp_region ?_
    refine sq_plain rfl rfl rfl (w_eql rfl (ev_tmp rfl) ev_ci) ?_
    refine sq_plain rfl rfl rfl (w_assign rfl (ev_tmp rfl)) ?_
    refine sq_nil ?_
    refine awp_cond (ev_tmp rfl) ?_ ?_
    · intro h18
      have k18 := eq_of_beqt h18; try simp only [List.length_map] at k18
      refine awp_region ?_
      refine sq_plain rfl rfl rfl (w_move rfl (ev_tmp rfl)) ?_
      refine sq_plain rfl rfl rfl (w_bslice rfl Tryd.underlying31 Tryd.sizeOf3 Tryd.zeroValue3 rfl rfl rfl rfl (bp_cons ev_ci (as_ik _ _) (bp_cons ev_ci (as_ik _ _) (bp_cons ev_ci (as_ik _ _) bp_nil))) rfl rfl) ?_
      refine sq_callG [0] rfl rfl rfl rfl Tryd.call74 rfl (curAmong_own _ _ hcode _ ([(-1), (3), (4)] : List Int) (by decide) (by omega)) (evl_cons (ev_tmp rfl) (evl_cons (ev_tmp rfl) evl_nil)) rfl ?_
      intro x22 ok22
      refine sq_plain rfl rfl rfl (w_fldBn 1 rfl Tryd.underlying27 rfl Tryd.sizeOf3 (ev_tmp rfl) rfl) ?_
      refine sq_storeB1 1 rfl rfl rfl (ev_tmp rfl) (ev_tmp rfl) (as_ik _ _) rfl Tryd.sizeOf3 rfl ?_
      refine sq_nil ?_
      refine awp_seq ?_
      refine awp_region ?_
      refine sq_plain rfl rfl rfl (w_loadA 1 rfl (ev_tmp rfl) rfl Tryd.isAgg27 Tryd.sizeOf27 rfl) ?_
      refine sq_storeB0 2 rfl rfl rfl (ev_tmp rfl) (ev_tmp rfl) (as_agg _) rfl Tryd.sizeOf27 rfl ?_
      refine sq_nil ?_
      refine awp_ret ?_
      (refine retG [] (⟨it.Time, x22.2, it.Key, it.Val, it.Gone⟩) ?_ rfl (by first | (dsimp only; rfl) | rfl) (resR rfl (rv_cell (ys := _) 2 rfl rfl Tryd.isAgg27 Tryd.sizeOf27 rfl)); exact hz9)
    · intro h18
      have k18 := ne_of_beqf h18; try simp only [List.length_map] at k18
      refine awp_seq ?_
      refine awp_region ?_
      refine sq_plain rfl rfl rfl (w_eql rfl (ev_tmp rfl) ev_ci) ?_
      refine sq_plain rfl rfl rfl (w_assign rfl (ev_tmp rfl)) ?_
      refine sq_nil ?_
      refine awp_cond (ev_tmp rfl) ?_ ?_
      · intro h24
        have k24 := eq_of_beqt h24; try simp only [List.length_map] at k24
        refine awp_region ?_
        refine sq_plain rfl rfl rfl (w_fldBn 4 rfl Tryd.underlying27 rfl Tryd.sizeOf4 (ev_tmp rfl) rfl) ?_
        refine sq_plain rfl rfl rfl (w_loadB1 1 rfl (ev_tmp rfl) rfl Tryd.isAgg4 rfl) ?_
        refine sq_plain rfl rfl rfl (w_not rfl (ev_tmp rfl)) ?_
        refine sq_plain rfl rfl rfl (w_fldBn 4 rfl Tryd.underlying27 rfl Tryd.sizeOf4 (ev_tmp rfl) rfl) ?_
        refine sq_storeB1 1 rfl rfl rfl (ev_tmp rfl) (ev_tmp rfl) (as_bool _) rfl Tryd.sizeOf4 rfl ?_
        refine sq_nil ?_
        refine awp_seq ?_
        refine awp_region ?_
        refine sq_plain rfl rfl rfl (w_loadA 1 rfl (ev_tmp rfl) rfl Tryd.isAgg27 Tryd.sizeOf27 rfl) ?_
        refine sq_storeB0 2 rfl rfl rfl (ev_tmp rfl) (ev_tmp rfl) (as_agg _) rfl Tryd.sizeOf27 rfl ?_
        refine sq_nil ?_
        refine awp_ret ?_
        (refine retG [] (⟨it.Time, it.Group, it.Key, it.Val, !it.Gone⟩) ?_ rfl (by first | (dsimp only; rfl) | rfl) (resR rfl (rv_cell (ys := _) 2 rfl rfl Tryd.isAgg27 Tryd.sizeOf27 rfl)); exact hz9)
      · intro h24
        have k24 := ne_of_beqf h24; try simp only [List.length_map] at k24
        refine awp_skip ?_
        refine awp_seq ?_
        refine awp_region ?_
        refine sq_plain rfl rfl rfl (w_loadA 1 rfl (ev_tmp rfl) rfl Tryd.isAgg27 Tryd.sizeOf27 rfl) ?_
        refine sq_storeB0 2 rfl rfl rfl (ev_tmp rfl) (ev_tmp rfl) (as_agg _) rfl Tryd.sizeOf27 rfl ?_
        refine sq_nil ?_
        refine awp_ret ?_
        (refine retG [] (it) ?_ rfl (by first | (dsimp only; rfl) | rfl) (resR rfl (rv_cell (ys := _) 2 rfl rfl Tryd.isAgg27 Tryd.sizeOf27 rfl)); exact hz9)
theorem drawFeedLine_own (code : List Int) (hcode : ByteL code) : GSpec Tryd.prog 21 [bytesI code] [] (fun x : TFeedItem => x.size ≤ 128) (fun x => []) (fun x => AV.agg x.cs) := by
  refine gspec_of_awp Tryd.func21 rfl Tryd.ntmps21 rfl ?_
  refine awp_seq ?_
  refine awp_region ?_
  refine sq_alloc rfl rfl rfl rfl Tryd.zeroValue27 rfl ?_
  intro b2
  refine sq_nil ?_
  refine awp_seq ?_
  refine awp_region ?_
  refine sq_plain rfl rfl rfl (w_move rfl (ev_tmp rfl)) ?_
  refine sq_callG [] rfl rfl rfl rfl Tryd.call47 rfl (drawGoodItem_own code hcode) (evl_cons (ev_tmp rfl) evl_nil) rfl ?_
  intro x4 ok4
  refine sq_storeB0 0 rfl rfl rfl (ev_tmp rfl) (ev_tmp rfl) (as_agg _) rfl Tryd.sizeOf27 rfl ?_
  refine sq_nil ?_
  refine awp_ret ?_
  (refine retG [] (x4) ?_ rfl (by first | (dsimp only; rfl) | rfl) (resR rfl (rv_cell (ys := _) 0 rfl rfl Tryd.isAgg27 Tryd.sizeOf27 rfl)); exact ok4)
theorem drawReadFeedLine_own (code : List Int) (hcode : ByteL code) : GSpec Tryd.prog 22 [bytesI code] [] (fun x : Str => x.length ≤ 200) (fun x => []) (fun x => AV.str x) := by
  refine gspec_of_awp Tryd.func22 rfl Tryd.ntmps22 rfl ?_
  refine awp_seq ?_
  refine awp_region ?_
  refine sq_plain rfl rfl rfl (w_assign rfl (ev_cs' (l := []) rfl)) ?_
  refine sq_nil ?_
  refine awp_seq ?_
  refine awp_region ?_
  refine sq_plain rfl rfl rfl (w_move rfl (ev_tmp rfl)) ?_
  refine sq_plain rfl rfl rfl (w_build (places := #[(0, 1), (1, 1), (2, 1)]) rfl Tryd.underlying72 Tryd.zeroValue72 (fun w => by kernel_rfl) rfl (bp_cons (ev_tmp rfl) (as_list _ _) bp_nil) rfl) ?_
  refine sq_box rfl rfl rfl rfl (ev_tmp rfl) ?_
  intro b7
  refine sq_plain rfl rfl rfl (w_assign rfl (ev_tmp rfl)) ?_
  refine sq_nil ?_
  refine awp_seq ?_
  refine awp_region ?_
  refine sq_plain rfl rfl rfl (w_move rfl (ev_tmp rfl)) ?_
  refine sq_callG [0] rfl rfl rfl rfl Tryd.call48 rfl (l23Item_own _ _ hcode ⟨0, 0⟩ (by decide)) (evl_cons (ev_tmp rfl) evl_nil) rfl ?_
  intro x9 ok9
  obtain ⟨⟨c9, it⟩, hx9⟩ : ∃ z, x9 = z := ⟨_, rfl⟩
  subst hx9
  obtain ⟨hp9, hz9, ht9, hg9⟩ := ok9
  dsimp only at hp9 hz9 ht9 hg9 ⊢
  have hp9' : c9.p ≤ 20 := hp9
  have hll := lineB_len (c := it) (by omega) (by omega)
  refine sq_plain rfl rfl rfl (w_call rfl Tryd.call28 rfl (l23LineG_spec it (by omega) (by omega) (by omega)) (evl_cons (ev_tmp rfl) evl_nil)) ?_
  refine sq_plain rfl rfl rfl (w_assign rfl (ev_tmp rfl)) ?_
  refine sq_nil ?_
  refine awp_seq ?_
  refine awp_seq ?_
  refine awp_region ?_
  refine sq_plain rfl rfl rfl (w_move rfl (ev_tmp rfl)) ?_
  refine sq_callG [0] rfl rfl rfl rfl Tryd.call49 rfl (curOne_own _ _ hcode _ _ (by omega) (by omega)) (evl_cons (ev_tmp rfl) (evl_cons ev_ci evl_nil)) rfl ?_
  intro x12 ok12
  refine sq_nil ?_
  refine awp_cond (ev_tmp rfl) ?_ ?_
  · intro h12
    refine awp_seq ?_
    refine awp_region ?_
    refine sq_plain rfl rfl rfl (w_move rfl (ev_tmp rfl)) ?_
    refine sq_plain rfl rfl rfl (w_move rfl (ev_tmp rfl)) ?_
    refine sq_callG [0] rfl rfl rfl rfl Tryd.call50 rfl (curSpoilt_own _ _ hcode _ (lineB it) _ (by omega) (by decide) (by omega)) (evl_cons (ev_tmp rfl) (evl_cons (ev_tmp rfl) (evl_cons (ev_cs' (l := [32, 61, 33, 48, 49, 97]) rfl) evl_nil))) rfl ?_
    intro x15 ok15
    refine sq_plain rfl rfl rfl (w_assign rfl (ev_tmp rfl)) ?_
    refine sq_nil ?_
    refine awp_ret ?_
    (refine retG [] (x15.2) ?_ rfl (by first | (dsimp only; rfl) | rfl) (resR rfl (rv_tmp' rfl (by rfl))); first | omega | (have h9 := ok15.2; omega))
  · intro h12
    refine awp_skip ?_
    refine awp_seq ?_
    refine awp_region ?_
    refine sq_plain rfl rfl rfl (w_move rfl (ev_tmp rfl)) ?_
    refine sq_plain rfl rfl rfl (w_assign rfl (ev_tmp rfl)) ?_
    refine sq_nil ?_
    refine awp_ret ?_
    (refine retG [] (lineB it) ?_ rfl (by first | (dsimp only; rfl) | rfl) (resR rfl (rv_tmp' rfl (by rfl))); first | omega | (have h9 := ok15.2; omega))
theorem vBigT_spec (code : List Int) : FSpec Tryd.prog 20 [bytesI code] (AV.bool (decide (65536 < (code.length : Int)))) := by
  refine spec_of_awp Tryd.func20 rfl Tryd.ntmps20 rfl ?_
  refine awp_len (t := 0) rfl fun hl0 => ?_
  try simp only [List.length_map] at hl0
  refine awp_seq ?_
  refine awp_region ?_
  refine sq_plain rfl rfl rfl (w_assign rfl ev_cb) ?_
  refine sq_nil ?_
  refine awp_seq ?_
  refine awp_region ?_
  refine sq_plain rfl rfl rfl (w_move rfl (ev_tmp rfl)) ?_
  refine sq_plain rfl rfl rfl (w_llen rfl Tryd.underlying44 (ev_tmp rfl)) ?_
  refine sq_plain rfl rfl rfl (w_gtr rfl (ev_tmp rfl) ev_ci) ?_
  refine sq_plain rfl rfl rfl (w_assign rfl (ev_tmp rfl)) ?_
  refine sq_nil ?_
  refine awp_ret ?_
  exact retR rfl (rv_tmp' rfl (by (refine congrArg AV.bool ?_; simp only [List.length_map])))
end Go.Proofs.YtdgoejkijpllpaaDoor

set_option linter.unusedVariables false
set_option linter.unusedSimpArgs false
set_option maxRecDepth 100000
namespace Go.Proofs.YtdgoejkijpllpaaDoor
open Go Go.AV Go.M
open Go.ChangeShapes Go.WideShapes Go.ChangeAt Go.RowKit
theorem star : "*" ++ "errors.errorString" = "*errors.errorString" := by decide
theorem errRow (u : TypeId) (h : Tryd.prog.typeName? 3 u = some "*errors.errorString") : u = 136 :=
  typeName_ptr_named (nm := "errors.errorString") (by rw [star]; kernel_rfl) (by kernel_rfl) (by decide) u (by rw [star]; exact h)
theorem readW_of {W : World} (hL : laidMet Tryd.prog Rows.fnExactReadFeedLineRow.laid W) (hsh : W.ShapedOpen Tryd.prog) : readW W := by
  refine ⟨tabW_head (laidMet.tail (laidMet.tail hL)), ?_, ?_, ?_⟩
  · exact cell_of_shapedOpen_int (t := 3) (k := .i64) (zero := #[.int .i64 0]) hsh (of_decide_eq_true (by kernel_rfl)) (by kernel_rfl) rfl (by kernel_rfl) (by kernel_rfl) Tryd.underlying3
  · have h5 := laidMet.tail (laidMet.tail (laidMet.tail (laidMet.tail (laidMet.tail hL))))
    obtain ⟨a, s, h, _⟩ := laid_sentinel (n := "strconv.ErrSyntax") (g := 1) (ti := 84) h5 (by kernel_rfl) (by kernel_rfl) Tryd.underlying84 errRow Tryd.underlying136 Tryd.underlying138 rfl rfl Tryd.underlying9 (by kernel_rfl) (by kernel_rfl)
    exact ⟨_, _, h⟩
  · have h4 := laidMet.tail (laidMet.tail (laidMet.tail (laidMet.tail hL)))
    obtain ⟨a, s, h, _⟩ := laid_sentinel (n := "strconv.ErrRange") (g := 2) (ti := 84) h4 (by kernel_rfl) (by kernel_rfl) Tryd.underlying84 errRow Tryd.underlying136 Tryd.underlying138 rfl rfl Tryd.underlying9 (by kernel_rfl) (by kernel_rfl)
    exact ⟨_, _, h⟩
end Go.Proofs.YtdgoejkijpllpaaDoor

set_option linter.unusedVariables false
set_option linter.unusedSimpArgs false
set_option maxRecDepth 100000
set_option maxHeartbeats 1000000
namespace Go.M
open Go.AV
theorem parseF_nil : parseF [] = (emptyF, false) := rfl
theorem feed_bad {c : TFeedItem} (h : (feedLineR c).2 = false) : feedLineR c = ([], false) := by
  unfold feedLineR at h ⊢
  split
  · rfl
  · rename_i hh; rw [if_neg hh] at h; cases h
theorem feed_good {c : TFeedItem} (h : (feedLineR c).2 = true) : feedLineR c = (lineB c, true) ∧ parseF (lineB c) = (c, true) := by
  unfold feedLineR at h ⊢
  split
  · rename_i hh; rw [if_pos hh] at h; cases h
  · rename_i hh; exact ⟨rfl, parseF_line (by simpa using hh)⟩
theorem feed_len {c : TFeedItem} (h : c.size ≤ 128) : (feedLineR c).1.length ≤ 200 := by
  unfold feedLineR
  split
  · simp
  · rename_i hh
    have hg := goodItem_nums (c := c) (by simpa using hh)
    have := lineB_len hg.1 hg.2
    dsimp only; omega
theorem feed_back (c : TFeedItem) : (parseF (feedLineR c).1).2 = (feedLineR c).2 ∧ ((feedLineR c).2 = true → (parseF (feedLineR c).1).1 = c) := by
  cases h : (feedLineR c).2 with
  | false => rw [feed_bad h]; exact ⟨by rw [parseF_nil], fun e => by cases e⟩
  | true => obtain ⟨h1, h2⟩ := feed_good h; rw [h1, h2]; exact ⟨rfl, fun _ => rfl⟩
end Go.M
namespace Go.Proofs.YtdgoejkijpllpaaDoor
open Go Go.AV Go.M
open Go.ChangeShapes Go.WideShapes Go.ChangeAt Go.RowKit
section
attribute [local irreducible] OpW OpA OpS AWP FSpec ESpec GSpec OpE RetOk RetOkG RvDen Le Ev GuardIs SrcIs
theorem fnFeedText_spec (code : List Int) (hc : ∀ x ∈ code, (Lit.int .u8 x).wf = true) : FSpec Tryd.prog 6 [AV.wt readW (bytesI code)] (AV.bool true) := by
  refine spec_of_awp Tryd.func6 rfl Tryd.ntmps6 rfl ?_
  refine AWP.le (le_tab (t := 0) rfl) ?_
  refine awp_seq ?_
  refine awp_region ?_
  refine sq_plain rfl rfl rfl (w_assign rfl ev_cb) ?_
  refine sq_nil ?_
  refine awp_seq ?_
  refine awp_seq ?_
  refine awp_region ?_
  refine sq_plain rfl rfl rfl (w_move rfl (ev_tmp rfl)) ?_
  refine sq_plain rfl rfl rfl (w_call rfl Tryd.call20 rfl (vBigT_spec code) (evl_cons (ev_tmp rfl) evl_nil)) ?_
  refine sq_nil ?_
  refine awp_cond (ev_tmp rfl) ?_ ?_
  · intro h16
    refine awp_seq ?_
    refine awp_region ?_
    refine sq_plain rfl rfl rfl (w_assign rfl ev_cb) ?_
    refine sq_nil ?_
    refine awp_ret ?_
    exact retR rfl (rv_tmp' rfl (by first | rfl | exact congrArg AV.bool (by have hb := feed_back x18; cases h9 : (feedLineR x18).2 with | false => (rw [h9] at hb; simp [hb.1]) | true => (rw [h9] at hb; simp [hb.1, hb.2 rfl]))))
  · intro h16
    have hcode : ByteL code := byteL_of hc
    refine awp_skip ?_
    refine awp_seq ?_
    refine awp_region ?_
    refine sq_plain rfl rfl rfl (w_move rfl (ev_tmp rfl)) ?_
    refine sq_callG [] rfl rfl rfl rfl Tryd.call21 rfl (drawFeedLine_own code hcode) (evl_cons (ev_tmp rfl) evl_nil) rfl ?_
    intro x18 ok18
    obtain ⟨c, hc18⟩ : ∃ c, x18 = c := ⟨_, rfl⟩
    subst hc18
    have hz : x18.size ≤ 128 := ok18
    have hfl := feed_len hz
    refine sq_alloc rfl rfl rfl rfl Tryd.zeroValue27 rfl ?_
    intro b3
    refine sq_storeB0 0 rfl rfl rfl (ev_tmp rfl) (ev_tmp rfl) (as_agg _) rfl Tryd.sizeOf27 rfl ?_
    refine sq_nil ?_
    refine awp_seq ?_
    refine awp_region ?_
    refine sq_plain rfl rfl rfl (w_loadA 0 rfl (ev_tmp rfl) rfl Tryd.isAgg27 Tryd.sizeOf27 rfl) ?_
    refine sq_plain rfl rfl rfl (w_callT 1 rfl rfl Tryd.call11 rfl (feedLineR_spec x18 (by omega)) (evl_cons (ev_tmp rfl) evl_nil) (by first | exact fun _ h => h | exact fun _ h => h.1)) ?_
    refine sq_plain rfl rfl rfl (w_move rfl (ev_tmp rfl)) ?_
    refine sq_plain rfl rfl rfl (w_extract rfl (ev_tmp rfl) rfl) ?_
    refine sq_plain rfl rfl rfl (w_extract rfl (ev_tmp rfl) rfl) ?_
    refine sq_plain rfl rfl rfl (w_assign rfl (ev_tmp rfl)) ?_
    refine sq_plain rfl rfl rfl (w_assign rfl (ev_tmp rfl)) ?_
    refine sq_nil ?_
    refine awp_seq ?_
    refine awp_region ?_
    refine sq_plain rfl rfl rfl (w_loadA 0 rfl (ev_tmp rfl) rfl Tryd.isAgg27 Tryd.sizeOf27 rfl) ?_
    refine sq_plain rfl rfl rfl (w_call rfl Tryd.call9 rfl (feedLineS_spec x18 (by omega)) (evl_cons (ev_tmp rfl) evl_nil)) ?_
    refine sq_plain rfl rfl rfl (w_move rfl (ev_tmp rfl)) ?_
    refine sq_plain rfl rfl rfl (w_extract rfl (ev_tmp rfl) rfl) ?_
    refine sq_plain rfl rfl rfl (w_extract rfl (ev_tmp rfl) rfl) ?_
    refine sq_plain rfl rfl rfl (w_assign rfl (ev_tmp rfl)) ?_
    refine sq_plain rfl rfl rfl (w_assign rfl (ev_tmp rfl)) ?_
    refine sq_nil ?_
    refine awp_seq ?_
    refine awp_region ?_
    refine sq_plain rfl rfl rfl (w_move rfl (ev_tmp rfl)) ?_
    refine sq_callG [] rfl rfl rfl rfl Tryd.call22 rfl (drawReadFeedLine_own code hcode) (evl_cons (ev_tmp rfl) evl_nil) rfl ?_
    intro x30 ok30
    refine sq_plain rfl rfl rfl (w_assign rfl (ev_tmp rfl)) ?_
    refine sq_nil ?_
    refine awp_seq ?_
    refine awp_region ?_
    refine sq_plain rfl rfl rfl (w_move rfl (ev_tmp rfl)) ?_
    refine sq_plain rfl rfl rfl (w_callT 1 rfl rfl Tryd.call18 rfl (readFeedLine_spec x30 (by omega)) (evl_cons (ev_tmp rfl) evl_nil) (by first | exact fun _ h => h | exact fun _ h => h.1)) ?_
    refine sq_plain rfl rfl rfl (w_move rfl (ev_tmp rfl)) ?_
    refine sq_plain rfl rfl rfl (w_extract rfl (ev_tmp rfl) rfl) ?_
    refine sq_plain rfl rfl rfl (w_extract rfl (ev_tmp rfl) rfl) ?_
    refine sq_alloc rfl rfl rfl rfl Tryd.zeroValue27 rfl ?_
    intro b9
    refine sq_storeB0 0 rfl rfl rfl (ev_tmp rfl) (ev_tmp rfl) (as_agg _) rfl Tryd.sizeOf27 rfl ?_
    refine sq_plain rfl rfl rfl (w_assign rfl (ev_tmp rfl)) ?_
    refine sq_nil ?_
    refine awp_seq ?_
    refine awp_region ?_
    refine sq_plain rfl rfl rfl (w_move rfl (ev_tmp rfl)) ?_
    refine sq_plain rfl rfl rfl (w_call rfl Tryd.call17 rfl (readFeedLineS_spec x30 (by omega)) (evl_cons (ev_tmp rfl) evl_nil)) ?_
    refine sq_plain rfl rfl rfl (w_move rfl (ev_tmp rfl)) ?_
    refine sq_plain rfl rfl rfl (w_extract rfl (ev_tmp rfl) rfl) ?_
    refine sq_plain rfl rfl rfl (w_extract rfl (ev_tmp rfl) rfl) ?_
    refine sq_alloc rfl rfl rfl rfl Tryd.zeroValue27 rfl ?_
    intro b11
    refine sq_storeB0 0 rfl rfl rfl (ev_tmp rfl) (ev_tmp rfl) (as_agg _) rfl Tryd.sizeOf27 rfl ?_
    refine sq_plain rfl rfl rfl (w_assign rfl (ev_tmp rfl)) ?_
    refine sq_nil ?_
    refine awp_seq ?_
    refine awp_seq ?_
    refine awp_region ?_
    refine sq_plain rfl rfl rfl (w_move rfl (ev_tmp rfl)) ?_
    refine sq_plain rfl rfl rfl (w_move rfl (ev_tmp rfl)) ?_
    refine sq_plain rfl rfl rfl (w_sneq rfl (ev_tmp rfl) (ev_tmp rfl)) ?_
    refine sq_plain rfl rfl rfl (w_move rfl (ev_tmp rfl)) ?_
    refine sq_grd rfl rfl (guard_f rfl rfl rfl) (fun hc => w_move rfl (ev_tmp rfl)) ?_
    refine sq_grd rfl rfl (guard_f rfl rfl rfl) (fun hc => w_move rfl (ev_tmp rfl)) ?_
    refine sq_grd rfl rfl (guard_f rfl rfl rfl) (fun hc => w_bneq rfl Tryd.underlying4 (ev_whn rfl hc) (ev_whn rfl hc)) ?_
    refine sq_plain rfl rfl rfl (w_or rfl (ev_tmp rfl) (evif_w rfl)) ?_
    refine sq_plain rfl rfl rfl (w_move rfl (ev_tmp rfl)) ?_
    refine sq_grd rfl rfl (guard_f rfl rfl rfl) (fun hc => w_loadA 1 rfl (ev_tmp rfl) rfl Tryd.isAgg27 Tryd.sizeOf27 rfl) ?_
    refine sq_grd rfl rfl (guard_f rfl rfl rfl) (fun hc => w_loadA 0 rfl (ev_tmp rfl) rfl Tryd.isAgg27 Tryd.sizeOf27 rfl) ?_
    refine sq_grd rfl rfl (guard_f rfl rfl rfl) (fun hc => w_aneq rfl Tryd.underlying27 (by kernel_rfl) (by kernel_rfl) (ev_whn rfl hc) (ev_whn rfl hc) (eqf_cons (by kernel_rfl) Tryd.isAgg3 rfl rfl (eqf_int Tryd.underlying3) (eqf_cons (by kernel_rfl) Tryd.isAgg3 rfl rfl (eqf_int Tryd.underlying3) (eqf_cons (by kernel_rfl) Tryd.isAgg9 rfl rfl (eqf_str Tryd.underlying9) (eqf_cons (by kernel_rfl) Tryd.isAgg9 rfl rfl (eqf_str Tryd.underlying9) (eqf_cons (by kernel_rfl) Tryd.isAgg4 rfl rfl (eqf_bool Tryd.underlying4) eqf_nil)))))) ?_
    refine sq_plain rfl rfl rfl (w_or rfl (ev_tmp rfl) (evif_w rfl)) ?_
    refine sq_plain rfl rfl rfl (w_move rfl (ev_tmp rfl)) ?_
    refine sq_grd rfl rfl (guard_f rfl rfl rfl) (fun hc => w_move rfl (ev_tmp rfl)) ?_
    refine sq_grd rfl rfl (guard_f rfl rfl rfl) (fun hc => w_move rfl (ev_tmp rfl)) ?_
    refine sq_grd rfl rfl (guard_f rfl rfl rfl) (fun hc => w_bneq rfl Tryd.underlying4 (ev_whn rfl hc) (ev_whn rfl hc)) ?_
    refine sq_plain rfl rfl rfl (w_or rfl (ev_tmp rfl) (evif_w rfl)) ?_
    refine sq_nil ?_
    refine awp_cond (ev_tmp rfl) ?_ ?_
    · intro h58
      exfalso; rw [parse_eq] at h58; simp at h58
    · intro h58
      refine awp_skip ?_
      refine awp_seq ?_
      refine awp_region ?_
      refine sq_plain rfl rfl rfl (w_move rfl (ev_tmp rfl)) ?_
      refine sq_plain rfl rfl rfl (w_callT 3 rfl rfl Tryd.call18 rfl (readFeedLine_spec (feedLineR x18).1 (by omega)) (evl_cons (ev_tmp rfl) evl_nil) (by first | exact fun _ h => h | exact fun _ h => h.1)) ?_
      refine sq_plain rfl rfl rfl (w_move rfl (ev_tmp rfl)) ?_
      refine sq_plain rfl rfl rfl (w_extract rfl (ev_tmp rfl) rfl) ?_
      refine sq_plain rfl rfl rfl (w_extract rfl (ev_tmp rfl) rfl) ?_
      refine sq_alloc rfl rfl rfl rfl Tryd.zeroValue27 rfl ?_
      intro b13
      refine sq_storeB0 0 rfl rfl rfl (ev_tmp rfl) (ev_tmp rfl) (as_agg _) rfl Tryd.sizeOf27 rfl ?_
      refine sq_plain rfl rfl rfl (w_assign rfl (ev_tmp rfl)) ?_
      refine sq_nil ?_
      refine awp_seq ?_
      refine awp_region ?_
      refine sq_plain rfl rfl rfl (w_move rfl (ev_tmp rfl)) ?_
      refine sq_plain rfl rfl rfl (w_move rfl (ev_tmp rfl)) ?_
      refine sq_plain rfl rfl rfl (w_beql rfl Tryd.underlying4 (ev_tmp rfl) (ev_tmp rfl)) ?_
      refine sq_plain rfl rfl rfl (w_move rfl (ev_tmp rfl)) ?_
      refine sq_grd rfl rfl (guard_t rfl rfl rfl) (fun hc => w_move rfl (ev_tmp rfl)) ?_
      refine sq_grd rfl rfl (guard_t rfl rfl rfl) (fun hc => w_not rfl (ev_whn rfl hc)) ?_
      refine sq_grd rfl rfl (guard_t rfl rfl rfl) (fun hc => w_move rfl (ev_whn rfl hc)) ?_
      refine sq_grd rfl rfl (guard_wf rfl rfl rfl) (fun hc => w_loadA 0 rfl (ev_tmp rfl) rfl Tryd.isAgg27 Tryd.sizeOf27 rfl) ?_
      refine sq_grd rfl rfl (guard_wf rfl rfl rfl) (fun hc => w_loadA 3 rfl (ev_tmp rfl) rfl Tryd.isAgg27 Tryd.sizeOf27 rfl) ?_
      refine sq_grd rfl rfl (guard_wf rfl rfl rfl) (fun hc => w_aeql rfl Tryd.underlying27 (by kernel_rfl) (by kernel_rfl) (ev_whn rfl hc) (ev_whn rfl hc) (eqf_cons (by kernel_rfl) Tryd.isAgg3 rfl rfl (eqf_int Tryd.underlying3) (eqf_cons (by kernel_rfl) Tryd.isAgg3 rfl rfl (eqf_int Tryd.underlying3) (eqf_cons (by kernel_rfl) Tryd.isAgg9 rfl rfl (eqf_str Tryd.underlying9) (eqf_cons (by kernel_rfl) Tryd.isAgg9 rfl rfl (eqf_str Tryd.underlying9) (eqf_cons (by kernel_rfl) Tryd.isAgg4 rfl rfl (eqf_bool Tryd.underlying4) eqf_nil)))))) ?_
      refine sq_grd rfl rfl (guard_t rfl rfl rfl) (fun hc => w_or rfl (ev_whn rfl hc) (evif_w2 rfl hc)) ?_
      refine sq_plain rfl rfl rfl (w_and rfl (ev_tmp rfl) (evif_w rfl)) ?_
      refine sq_plain rfl rfl rfl (w_assign rfl (ev_tmp rfl)) ?_
      refine sq_nil ?_
      refine awp_ret ?_
      exact retR rfl (rv_tmp' rfl (by first | rfl | exact congrArg AV.bool (by have hb := feed_back x18; cases h9 : (feedLineR x18).2 with | false => (rw [h9] at hb; simp [hb.1]) | true => (rw [h9] at hb; simp [hb.1, hb.2 rfl]))))
end
theorem opens_bytes : Opens Tryd.prog 44 (List Int) (fun l => [bytesI l]) (fun l => ∀ x ∈ l, (Lit.int .u8 x).wf = true) := opens_slice (sz := 1) Tryd.underlying44 (by kernel_rfl) (opens_int Tryd.underlying5) (fun _ => rfl)
set_option maxRecDepth 100000 in
theorem fnFeedText_lifted (os : Os) (started : os.Started) (H : Type) (enc : TypeId × Value → H) :
    ReturnsInHanded {} Tryd.checked os 6 .any (fun w args => (Rows.fnFeedTextSpec.pre enc Tryd.prog Tryd.f6 [] false w args ∧ laidMetH Tryd.prog Rows.fnFeedTextRow.laid w) ∧ sizedMet enc Tryd.prog Tryd.f6 (OpenSpec.ofChange Rows.fnFeedTextSpec) false w args) (Rows.fnFeedTextSpec.post enc Tryd.prog Tryd.f6 false true false false) := by
  refine Go.AV.handed_shaped (C := Tryd.checked) (X := fun w _ => laidMetH Tryd.prog Rows.fnFeedTextRow.laid w) (fun _ _ _ hh h => h.of_heap hh) (by kernel_rfl) started (by kernel_rfl) Tryd.func6
    (ChangeSpec.witness_shaped (enc := enc) (C := Tryd.checked) (os := os) (X := fun w _ => laidMetH Tryd.prog Rows.fnFeedTextRow.laid w) false (World.laidAll Tryd.prog os Rows.fnFeedTextRow.laid) #[.slice none 0 0] 8 (World.laidAll_os _ _ _)
      (World.shaped_of_ZipB (by kernel_rfl) (by kernel_rfl)) (by kernel_rfl) (by kernel_rfl) (by kernel_rfl)
      (by rw [MakeChecks.laidMetH_plain _ _ _ (by kernel_rfl)]; exact laidMet_laidAll _ (by kernel_rfl) (by kernel_rfl))) ?_
  intro W base args ds gs before hval0 hW hsh _ hL _
  rw [MakeChecks.laidMetH_plain _ _ _ (by kernel_rfl)] at hL
  have hT : readW W := readW_of hL hsh
  have hval : ∀ (j : Nat) t v, Tryd.f6.params[j]? = some t → args[j]? = some v → Value.okWide Tryd.prog W .any base t v := hval0
  have hW2 := hW
  obtain ⟨p, q, hA0, hV, rfl, hfz, hnd⟩ := hW
  have hA : DataW.TrodAll enc Tryd.prog W 0 (fun _ => true) true Tryd.f6.params.toList args.toList ds p := hA0
  rw [Tryd.params6] at hA hval
  obtain ⟨v0, vs0, d0, ds0, p0, q0, hargs, rfl, rfl, h0, r0⟩ := trodAll_cons hA
  obtain ⟨rfl, rfl, rfl⟩ := trodAll_nil r0
  obtain rfl : args = #[v0] := by cases args; simp_all
  obtain ⟨rfl, rfl⟩ := trodVars_none hV
  have lt0 : ∀ x ∈ p0, x.block < W.heap.size := by obtain ⟨m, hm⟩ := h0; exact DataW.trod_lt m _ _ _ hm
  obtain ⟨a0, w0, g0⟩ := arg_one (opens_bytes) (by obtain ⟨y1, y2, y3, rfl⟩ := okWide_slice Tryd.underlying44 (hval 0 44 v0 rfl rfl); rfl) h0
  have hcall := law_calls (fnFeedText_spec a0 w0) (DenV.cons ⟨g0, fun w2 hw2 => readW_heap hT hw2⟩ (DenV.nil _))
  clear hA0 hval0
  refine Calls.mono hcall fun e W2 ⟨he, bel⟩ => ?_
  subst he
  exact ⟨_, rfl, _, _, _, [], _, [], hW2, trodAll_mk1 (shut_bool Tryd.underlying4 _), (trodAll_cons_mk (Below.trod (by kernel_rfl : laidOutB Tryd.prog = true) (by kernel_rfl) (of_decide_eq_true (by kernel_rfl)) h0 bel lt0) trodAll_mk0), rfl, bel.frame _, fun h => by cases h⟩
theorem fnFeedText_and {a b : Bool} (h : a = true) (k : b = true) : (a && b) = true := by rw [h, k]; rfl
set_option maxRecDepth 100000 in
theorem fnFeedText_facts : joinedFacts Tryd.pinned.checked.prog 6 Tryd.f6 Rows.fnFeedTextSpec Rows.fnFeedTextRow = true := by
  unfold joinedFacts
  iterate 18 (rw [Bool.and_assoc])
  refine fnFeedText_and ?_ ?_
  · as_aux_lemma => kernel_rfl
  · as_aux_lemma => kernel_rfl
theorem fnFeedText_row : Rows.FnFeedTextSaid :=
  OpenClaim.holds_of_wide 6 Tryd.f6 rfl rfl rfl rfl rfl rfl rfl ⟨rfl, rfl, rfl, rfl, rfl⟩ rfl rfl rfl rfl rfl (by kernel_rfl) Tryd.func6 fnFeedText_facts
    (of_decide_eq_true (by kernel_rfl)) (by unfold Func.isWrapper; first | (rw [if_pos (by decide +kernel)]; kernel_rfl) | (rw [if_neg (by decide +kernel)]; exact ⟨rfl, rfl⟩))
    (fun os started H enc _ => fnFeedText_lifted os started H enc)
theorem fnFeedText_proved : Rows.FnFeedTextCardSaid :=
  Claim7.holds_tied_plain_at .later [] [.data, .data, .data, .data, .sentinel, .sentinel, .pinned] true (true, "7903b55ea66cd87d87188c1d3c70bfe37397061c8a9aa84cbe02af628d36de52") true
    fnFeedText_row (fun _ h => by cases h) (by kernel_rfl) (fun _ h => by cases h) fnFeedText_row_tie rfl ⟨rfl, rfl⟩ (by kernel_rfl) rfl
    (fun f fn hf hfn => by
      obtain rfl : f = 6 := Option.some.inj ((show Tryd.prog.funcNamed "loop.example/g00850/laws.FnFeedText" = some 6 by kernel_rfl).symm.trans hf) |>.symm
      obtain rfl : fn = Tryd.f6 := (Option.some.inj (Tryd.func6.symm.trans hfn)).symm
      exact ⟨by kernel_rfl, fun j t ht => by
        rw [Tryd.params6] at ht
        have hm : t ∈ [44] := by simpa using Array.mem_of_getElem? ht
        have hall : ([44].all fun u => !Tryd.prog.wantsStandIn u) = true := by kernel_rfl
        exact (show Tryd.prog.wantsStandIn t = false by simpa using List.all_eq_true.1 hall t hm)⟩)
    (by kernel_rfl)
end Go.Proofs.YtdgoejkijpllpaaDoor
