/- Walks: drawn atlases. -/
import Derived.Test.YtdbmaekdejhobaaDraw4W
import Derived.Test.YtdbmaekdejhobaaAtlas4W
import Derived.Test.YtdbmaekdejhobaaAvF
import Derived.Test.YtdbmaekdejhobaaWaysM
set_option linter.unusedVariables false
set_option linter.unusedSimpArgs false
set_option maxRecDepth 100000
set_option maxHeartbeats 400000
namespace Go.Proofs.Ytdbmaekdejhobaa
open Go Go.AV Go.M
def TAtlas.owF (a : TAtlas) (x : Value × Value) : List Own := [.arr x.1 57 3 (a.Maps.map TPlaces.cs), .arr x.2 3 1 (a.Knows.map fun x => [AV.int x])]
def TAtlas.ocF (x : Value × Value) : List AV := [AV.is x.1, AV.is x.2]
theorem TAtlas.oc (a : TAtlas) (x : Value × Value × List (Value × Value)) (h : x.2.2.length = a.Maps.length) : OwnsC (nin TPlaces.ow a.Maps x.2.2) [.arr x.1 57 3 (nrows TPlaces.ocs a.Maps x.2.2), .arr x.2.1 3 1 (a.Knows.map fun x => [AV.int x])] (TAtlas.owF a (x.1, x.2.1)) :=
  oc_cons ⟨rfl, rfl, rfl, nin_lendE TPlaces.lcM h fun _ ho => ho⟩ (oc_cons ⟨rfl, rfl, rfl, le_refl_e⟩ oc_nil)
attribute [local irreducible] OpW OpA OpS AWP FSpec ESpec GSpec OpE RetOk RetOkG RvDen Le Ev GuardIs SrcIs Int.tmod IntKind.wrap bandI
theorem newAtlasS_ownF (p : TPlaces) (hs : p.size ≤ 1048576) : GSpec Try.prog 56 [AV.agg p.cs] [] (fun _ : Value × Value => True) (fun x => TAtlas.owF (newAtlasS p).1 x) (fun x => AV.tup [AV.agg (TAtlas.ocF x), AV.bool (newAtlasS p).2]) :=
  gspec_sealC (fun x => (x.1, x.2.1)) (fun x => nin TPlaces.ow (newAtlasS p).1.Maps x.2.2) (fun x => [.arr x.1 57 3 (nrows TPlaces.ocs (newAtlasS p).1.Maps x.2.2), .arr x.2.1 3 1 ((newAtlasS p).1.Knows.map fun x => [AV.int x])]) (newAtlasS_own p hs) (fun _ _ => trivial) (fun _ _ => lt_refl) (fun x _ => List.perm_append_comm (l₁ := [_, _])) (fun _ _ => gin_nil) (fun x h => TAtlas.oc _ x h)
theorem addMapS_ownF (a : TAtlas) (p : TPlaces) (hs : a.size ≤ 1048576) (hp : p.size ≤ 1048576) : GSpec Try.prog 48 [AV.agg a.cs, AV.agg p.cs] [] (fun _ : Value × Value => True) (fun x => TAtlas.owF (addMapS a p).1 x) (fun x => AV.tup [AV.agg (TAtlas.ocF x), AV.bool (addMapS a p).2]) :=
  gspec_sealC (fun x => (x.1, x.2.1)) (fun x => nin TPlaces.ow (addMapS a p).1.Maps x.2.2) (fun x => [.arr x.1 57 3 (nrows TPlaces.ocs (addMapS a p).1.Maps x.2.2), .arr x.2.1 3 1 ((addMapS a p).1.Knows.map fun x => [AV.int x])]) (addMapS_own a p hs hp) (fun _ _ => trivial) (fun _ _ => lt_refl) (fun x _ => List.perm_append_comm (l₁ := [_, _])) (fun _ _ => gin_nil) (fun x h => TAtlas.oc _ x h)
theorem tellGroupS_ownF (a : TAtlas) (g t : Int) (hs : a.size ≤ 1048576) : GSpec Try.prog 51 [AV.agg a.cs, AV.int g, AV.int t] [] (fun _ : Value × Value => True) (fun x => TAtlas.owF (tellGroupS a g t).1 x) (fun x => AV.tup [AV.agg (TAtlas.ocF x), AV.bool (tellGroupS a g t).2]) :=
  gspec_sealC (fun x => (x.1, x.2.1)) (fun x => nin TPlaces.ow (tellGroupS a g t).1.Maps x.2.2) (fun x => [.arr x.1 57 3 (nrows TPlaces.ocs (tellGroupS a g t).1.Maps x.2.2), .arr x.2.1 3 1 ((tellGroupS a g t).1.Knows.map fun x => [AV.int x])]) (tellGroupS_own a g t hs) (fun _ _ => trivial) (fun _ _ => lt_refl) (fun x _ => List.perm_append_comm (l₁ := [_, _])) (fun _ _ => gin_nil) (fun x h => TAtlas.oc _ x h)
theorem curBentPlacesS_own (b : Nat) (code : List Int) (hcode : ByteL code) (c : TCur) (hp : c.p ≤ 1500000) : GSpec Try.prog 104 [AV.ptr b 0] [.box b 112 (curC code c)] (fun x : TCur × TPlaces => x.1.p ≤ c.p + 50 ∧ x.2.size ≤ 600) (fun x => [.box b 112 (curC code x.1)]) (fun x => AV.agg x.2.cs) :=
  gspec_sealC (fun x => (x.1, x.2.1)) (fun x => TPlaces.ow x.2.1 x.2.2) (fun x => [.box b 112 (curC code x.1)]) (curBentPlaces_own b code hcode c hp) (fun _ h => h) (fun x _ => lt_agg (TPlaces.lcM _ _ fun _ ho => ho)) (fun x _ => List.perm_append_comm (l₁ := [_])) (fun _ _ => gin_cons 0 rfl rfl gin_nil) (fun x _ => oc_cons ⟨rfl, rfl, lc_refl⟩ oc_nil)
theorem curNextPlaces_own (b : Nat) (code : List Int) (hcode : ByteL code) (c : TCur) (p : TPlaces) (hs : p.size ≤ 524288) (hp : c.p ≤ 3000000) : GSpec Try.prog 128 [AV.ptr b 0, AV.agg p.cs] [.box b 112 (curC code c)] (fun x : TCur × TPlaces × Bool => x.1.p ≤ c.p + 6 ∧ x.2.1.size ≤ p.size + 66) (fun x => [.box b 112 (curC code x.1)]) (fun x => AV.tup [AV.agg x.2.1.cs, AV.bool x.2.2]) := by
  have hpl := places_lens hs
  refine gspec_of_awp Try.func128 rfl Try.ntmps128 rfl ?_
  refine awp_seq ?_
  refine awp_region ?_
  refine sq_box rfl rfl rfl rfl (ev_tmp rfl) ?_
  intro b3
  refine sq_alloc rfl rfl rfl rfl Try.zeroValue57 rfl ?_
  intro b4
  refine sq_plain rfl rfl rfl (w_assign rfl ev_cb) ?_
  refine sq_nil ?_
  refine awp_seq ?_
  refine awp_seq ?_
  refine awp_region ?_
  refine sq_plain rfl rfl rfl (w_move rfl (ev_tmp rfl)) ?_
  refine sq_callG [2] rfl rfl rfl rfl Try.call86 rfl (curPick_own _ _ hcode _ _ (by omega) (by omega)) (evl_cons (ev_tmp rfl) (evl_cons ev_ci evl_nil)) rfl ?_
  intro x7 ok7
  refine sq_nil ?_
  refine awp_block ?_
  refine awp_seq ?_
  refine awp_region ?_
  refine sq_plain rfl rfl rfl (w_eql rfl (ev_tmp rfl) ev_ci) ?_
  refine sq_plain rfl rfl rfl (w_assign rfl (ev_tmp rfl)) ?_
  refine sq_nil ?_
  refine awp_cond (ev_tmp rfl) ?_ ?_
  · intro h8
    have k8 := eq_of_beqt h8; try simp only [List.length_map] at k8
    refine awp_seq ?_
    refine AWP.le (le_pick [2, 1] rfl) ?_
    refine awp_region_mix _ [(0, false), (1, false), (2, true), (3, false), (4, false), (5, false)] (by kernel_rfl) (by kernel_rfl) rfl (invx_take 2) ?_
    refine bc_plain rfl rfl rfl (fun ext => w_loadA 0 rfl (ev_tmp rfl) rfl Try.isAgg57 Try.sizeOf57 rfl) ?_
    refine bc_plain rfl rfl rfl (fun ext => w_move rfl (ev_tmp rfl)) ?_
    refine bc_eff rfl rfl rfl (opE_call [2] rfl Try.call182 rfl (curKey_own _ _ hcode _ (by omega)) (evl_cons (ev_tmp rfl) evl_nil) rfl) (fun a _ => (by first | exact invx_mk rfl | exact invx_mk (List.append_assoc _ _ _) | exact invx_all)) ?_
    intro x12 ok12
    refine bc_plain rfl rfl rfl (fun ext => w_call rfl Try.call26 rfl (splitAtS_spec _ _ (by first | assumption | omega) (by first | assumption | omega)) (evl_cons (ev_tmp rfl) (evl_cons (ev_tmp rfl) evl_nil))) ?_
    refine bc_plain rfl rfl rfl (fun ext => w_extract rfl (ev_tmp rfl) rfl) ?_
    refine bc_plain rfl rfl rfl (fun ext => w_extract rfl (ev_tmp rfl) rfl) ?_
    refine bc_nil ?_
    refine sq_storeB0 1 rfl rfl rfl (ev_tmp rfl) (ev_tmp rfl) (as_agg _) rfl Try.sizeOf57 rfl ?_
    refine sq_plain rfl rfl rfl (w_assign rfl (ev_tmp rfl)) ?_
    refine sq_nil ?_
    refine awp_ret ?_
    (refine retG [2] ((x12.1, (splitAtS p x12.2).1, (splitAtS p x12.2).2)) ?_ rfl (by first | (dsimp only; rfl) | rfl) (resN rfl (by decide) (rv_cons (rv_cell (ys := _) 1 rfl rfl Try.isAgg57 Try.sizeOf57 rfl) (rv_cons (rv_tmp' rfl (by rfl)) rv_nil))); (dsimp only; first | (rw [← splitAt_eq]; have h9 := splitAt_size p x12.2; exact ⟨by omega, by omega⟩) | (rw [← joinAt_eq]; have h9 := joinAt_size p x23.2; exact ⟨by omega, by omega⟩) | (rw [← giveTo_eq]; have h9 := giveTo_size p x32.2 x34.2; exact ⟨by omega, by omega⟩)))
  · intro h8
    have k8 := ne_of_beqf h8; try simp only [List.length_map] at k8
    refine awp_seq ?_
    refine awp_region ?_
    refine sq_plain rfl rfl rfl (w_eql rfl (ev_tmp rfl) ev_ci) ?_
    refine sq_plain rfl rfl rfl (w_assign rfl (ev_tmp rfl)) ?_
    refine sq_nil ?_
    refine awp_cond (ev_tmp rfl) ?_ ?_
    · intro h16
      have k16 := eq_of_beqt h16; try simp only [List.length_map] at k16
      refine awp_seq ?_
      refine AWP.le (le_pick [2, 1] rfl) ?_
      refine awp_region_mix _ [(0, false), (1, false), (2, false), (3, false), (4, false), (5, true), (6, false), (7, false), (8, false)] (by kernel_rfl) (by kernel_rfl) rfl (invx_take 2) ?_
      refine bc_plain rfl rfl rfl (fun ext => w_loadA 0 rfl (ev_tmp rfl) rfl Try.isAgg57 Try.sizeOf57 rfl) ?_
      refine bc_plain rfl rfl rfl (fun ext => w_move rfl (ev_tmp rfl)) ?_
      refine bc_plain rfl rfl rfl (fun ext => w_fldBn 2 rfl Try.underlying57 rfl Try.sizeOf55 (ev_tmp rfl) rfl) ?_
      refine bc_plain rfl rfl rfl (fun ext => w_loadB1 0 rfl (ev_tmp rfl) rfl Try.isAgg55 rfl) ?_
      refine bc_plain rfl rfl rfl (fun ext => w_llen rfl Try.underlying55 (ev_tmp rfl)) ?_
      refine bc_eff rfl rfl rfl (opE_call [2] rfl Try.call86 rfl (curPick_own _ _ hcode _ _ (by simp only [List.length_map]; omega) (by omega)) (evl_cons (ev_tmp rfl) (evl_cons (ev_tmp rfl) evl_nil)) rfl) (fun a _ => (by first | exact invx_mk rfl | exact invx_mk (List.append_assoc _ _ _) | exact invx_all)) ?_
      intro x23 ok23
      refine bc_plain rfl rfl rfl (fun ext => w_call rfl Try.call32 rfl (joinAtS_spec _ _ (by first | assumption | omega)) (evl_cons (ev_tmp rfl) (evl_cons (ev_tmp rfl) evl_nil))) ?_
      refine bc_plain rfl rfl rfl (fun ext => w_extract rfl (ev_tmp rfl) rfl) ?_
      refine bc_plain rfl rfl rfl (fun ext => w_extract rfl (ev_tmp rfl) rfl) ?_
      refine bc_nil ?_
      refine sq_storeB0 1 rfl rfl rfl (ev_tmp rfl) (ev_tmp rfl) (as_agg _) rfl Try.sizeOf57 rfl ?_
      refine sq_plain rfl rfl rfl (w_assign rfl (ev_tmp rfl)) ?_
      refine sq_nil ?_
      refine awp_ret ?_
      (refine retG [2] ((x23.1, (joinAtS p x23.2).1, (joinAtS p x23.2).2)) ?_ rfl (by first | (dsimp only; rfl) | rfl) (resN rfl (by decide) (rv_cons (rv_cell (ys := _) 1 rfl rfl Try.isAgg57 Try.sizeOf57 rfl) (rv_cons (rv_tmp' rfl (by rfl)) rv_nil))); (dsimp only; first | (rw [← splitAt_eq]; have h9 := splitAt_size p x12.2; exact ⟨by omega, by omega⟩) | (rw [← joinAt_eq]; have h9 := joinAt_size p x23.2; exact ⟨by omega, by omega⟩) | (rw [← giveTo_eq]; have h9 := giveTo_size p x32.2 x34.2; exact ⟨by omega, by omega⟩)))
    · intro h16
      have k16 := ne_of_beqf h16; try simp only [List.length_map] at k16
      refine awp_skip ?_
      refine awp_seq ?_
      refine AWP.le (le_pick [2, 1] rfl) ?_
      refine awp_region_mix _ [(0, false), (1, false), (2, false), (3, false), (4, false), (6, false), (5, true), (7, true), (8, false), (9, false), (10, false)] (by kernel_rfl) (by kernel_rfl) rfl (invx_take 2) ?_
      refine bc_plain rfl rfl rfl (fun ext => w_loadA 0 rfl (ev_tmp rfl) rfl Try.isAgg57 Try.sizeOf57 rfl) ?_
      refine bc_plain rfl rfl rfl (fun ext => w_move rfl (ev_tmp rfl)) ?_
      refine bc_plain rfl rfl rfl (fun ext => w_fldBn 2 rfl Try.underlying57 rfl Try.sizeOf55 (ev_tmp rfl) rfl) ?_
      refine bc_plain rfl rfl rfl (fun ext => w_loadB1 0 rfl (ev_tmp rfl) rfl Try.isAgg55 rfl) ?_
      refine bc_plain rfl rfl rfl (fun ext => w_llen rfl Try.underlying55 (ev_tmp rfl)) ?_
      refine bc_plain rfl rfl rfl (fun ext => w_move rfl (ev_tmp rfl)) ?_
      refine bc_eff rfl rfl rfl (opE_call [2] rfl Try.call86 rfl (curPick_own _ _ hcode _ _ (by simp only [List.length_map]; omega) (by omega)) (evl_cons (ev_tmp rfl) (evl_cons (ev_tmp rfl) evl_nil)) rfl) (fun a _ => (by first | exact invx_mk rfl | exact invx_mk (List.append_assoc _ _ _) | exact invx_all)) ?_
      intro x32 ok32
      refine bc_eff rfl rfl rfl (opE_call [2] rfl Try.call86 rfl (curPick_own _ _ hcode _ _ (by omega) (by omega)) (evl_cons (ev_tmp rfl) (evl_cons ev_ci evl_nil)) rfl) (fun a _ => (by first | exact invx_mk rfl | exact invx_mk (List.append_assoc _ _ _) | exact invx_all)) ?_
      intro x34 ok34
      refine bc_plain rfl rfl rfl (fun ext => w_call rfl Try.call29 rfl (giveToS_spec _ _ _ (by first | assumption | omega)) (evl_cons (ev_tmp rfl) (evl_cons (ev_tmp rfl) (evl_cons (ev_tmp rfl) evl_nil)))) ?_
      refine bc_plain rfl rfl rfl (fun ext => w_extract rfl (ev_tmp rfl) rfl) ?_
      refine bc_plain rfl rfl rfl (fun ext => w_extract rfl (ev_tmp rfl) rfl) ?_
      refine bc_nil ?_
      refine sq_storeB0 1 rfl rfl rfl (ev_tmp rfl) (ev_tmp rfl) (as_agg _) rfl Try.sizeOf57 rfl ?_
      refine sq_plain rfl rfl rfl (w_assign rfl (ev_tmp rfl)) ?_
      refine sq_nil ?_
      refine awp_ret ?_
      (refine retG [2] ((x34.1, (giveToS p x32.2 x34.2).1, (giveToS p x32.2 x34.2).2)) ?_ rfl (by first | (dsimp only; rfl) | rfl) (resN rfl (by decide) (rv_cons (rv_cell (ys := _) 1 rfl rfl Try.isAgg57 Try.sizeOf57 rfl) (rv_cons (rv_tmp' rfl (by rfl)) rv_nil))); (dsimp only; first | (rw [← splitAt_eq]; have h9 := splitAt_size p x12.2; exact ⟨by omega, by omega⟩) | (rw [← joinAt_eq]; have h9 := joinAt_size p x23.2; exact ⟨by omega, by omega⟩) | (rw [← giveTo_eq]; have h9 := giveTo_size p x32.2 x34.2; exact ⟨by omega, by omega⟩)))
theorem atlas_size {a : TAtlas} (h : goodAtlas a = true) : a.size ≤ 800 := by
  obtain ⟨f1, f2, f3, f4⟩ := atlas_facts h
  have hk : ∀ p ∈ a.Maps, p.size ≤ 60 := fun p hp => by
    obtain ⟨i, hi⟩ := List.getElem?_of_mem hp
    exact good_size (good_maps h hi)
  have h5 := sizeL_bd hk
  unfold TAtlas.size
  have h7 : a.Maps.length * 61 ≤ 12 * 61 := Nat.mul_le_mul_right _ f2
  omega
theorem atlas_last {a : TAtlas} (h : goodAtlas a = true) : (a.Maps.map TPlaces.cs)[((a.Maps.length : Int) - 1).toNat]? = some (lastM a).cs := by
  have := (lastM_good h).1
  obtain ⟨f1, _⟩ := atlas_facts h
  rw [show ((a.Maps.length : Int) - 1).toNat = a.Maps.length - 1 by omega, List.getElem?_map, this]; rfl
theorem tell_ok {a : TAtlas} {g t : Int} (h : goodAtlas a = true) (hg : 0 ≤ g ∧ g < 4) (ht : 0 ≤ t ∧ t < a.Maps.length) : (tellGroupS a g t).2 = true := by
  unfold tellGroupS
  rw [← goodAtlas_eq, h, wi_iff.2 (show 0 ≤ g ∧ g ≤ 3 by omega), wi_iff.2 (show 0 ≤ t ∧ t ≤ (a.Maps.length : Int) - 1 by omega)]; rfl
theorem atlas_lens {a : TAtlas} {m : Nat} (h : a.size ≤ m) : a.Maps.length ≤ m ∧ a.Knows.length ≤ m := by
  unfold TAtlas.size at h
  have := sizeL_len (f := TPlaces.size) (l := a.Maps)
  exact ⟨by omega, by omega⟩
theorem curAtlas_own (b : Nat) (code : List Int) (hcode : ByteL code) (c : TCur) (hp : c.p ≤ 1500000) : GSpec Try.prog 176 [AV.ptr b 0] [.box b 112 (curC code c)] (fun x : TCur × TAtlas × Value × Value => x.1.p ≤ c.p + 220 ∧ goodAtlas x.2.1 = true) (fun x => .box b 112 (curC code x.1) :: TAtlas.owF x.2.1 x.2.2) (fun x => AV.agg (TAtlas.ocF x.2.2)) := by
  refine gspec_of_awp Try.func176 rfl Try.ntmps176 rfl ?_
  refine awp_seq ?_
  refine awp_region ?_
  refine sq_alloc rfl rfl rfl rfl Try.zeroValue74 rfl ?_
  intro b2
  refine sq_nil ?_
  refine awp_seq ?_
  refine awp_region ?_
  refine sq_plain rfl rfl rfl (w_move rfl (ev_tmp rfl)) ?_
  refine sq_callG [1] rfl rfl rfl rfl Try.call173 rfl (curPlaces_own _ _ hcode _ (by omega)) (evl_cons (ev_tmp rfl) evl_nil) rfl ?_
  intro x14 ok14
  refine sq_le (le_sealD [1, 1] 14 rfl rfl (lt_agg (lc_cons lt_refl (lc_cons (lt_arr (List.mem_of_getElem? (i := 0) rfl) le_refl_e) (lc_cons (lt_arr (List.mem_of_getElem? (i := 1) rfl) le_refl_e) lc_nil)))) (gin_cons 0 rfl rfl gin_nil)) ?_
  refine sq_alloc rfl rfl rfl rfl Try.zeroValue57 rfl ?_
  intro b3
  refine sq_storeB0 0 rfl rfl rfl (ev_tmp rfl) (ev_tmp rfl) (as_agg _) rfl Try.sizeOf57 rfl ?_
  refine sq_nil ?_
  refine awp_seq ?_
  refine awp_region ?_
  refine sq_plain rfl rfl rfl (w_move rfl (ev_tmp rfl)) ?_
  refine sq_callG [1] rfl rfl rfl rfl Try.call86 rfl (curPick_own _ _ hcode _ _ (by omega) (by omega)) (evl_cons (ev_tmp rfl) (evl_cons ev_ci evl_nil)) rfl ?_
  intro x16 ok16
  have hq : goodPlaces ⟨x16.2, x14.2.1.Cuts, x14.2.1.Groups⟩ = true := good_ver ok14.2 (by omega)
  have hqs := good_size hq
  refine sq_plain rfl rfl rfl (w_fldBn 0 rfl Try.underlying57 rfl Try.sizeOf3 (ev_tmp rfl) rfl) ?_
  refine sq_storeB1 1 rfl rfl rfl (ev_tmp rfl) (ev_tmp rfl) (as_ik _ _) rfl Try.sizeOf3 rfl ?_
  refine sq_nil ?_
  refine awp_seq ?_
  refine awp_region ?_
  refine sq_plain rfl rfl rfl (w_loadA 1 rfl (ev_tmp rfl) rfl Try.isAgg57 Try.sizeOf57 rfl) ?_
  refine sq_callG [] rfl rfl rfl rfl Try.call56 rfl (newAtlasS_ownF ⟨x16.2, x14.2.1.Cuts, x14.2.1.Groups⟩ (by omega)) (evl_cons (ev_tmp rfl) evl_nil) rfl ?_
  intro x20 ok20
  have hna : goodAtlas (newAtlasS ⟨x16.2, x14.2.1.Cuts, x14.2.1.Groups⟩).1 = true := by (rw [← newAtlas_eq]; exact newAtlas_good (by unfold newAtlas; rw [hq]; rfl))
  obtain ⟨a0, ha0⟩ : ∃ a0, (newAtlasS ⟨x16.2, x14.2.1.Cuts, x14.2.1.Groups⟩).1 = a0 := ⟨_, rfl⟩
  rw [ha0] at hna
  rw [ha0]
  refine sq_plain rfl rfl rfl (w_move rfl (ev_tmp rfl)) ?_
  refine sq_plain rfl rfl rfl (w_extract rfl (ev_tmp rfl) rfl) ?_
  refine sq_plain rfl rfl rfl (w_extract rfl (ev_tmp rfl) rfl) ?_
  refine sq_own (by first | (simp only [TAtlas.owF, TAtlas.ocF, TAtlas.ow, TAtlas.ocs, TPlaces.ow, TPlaces.ocs, pick, List.eraseIdx_cons_zero, List.eraseIdx_cons_succ, List.set_cons_zero, List.set_cons_succ, List.cons_append, List.nil_append, List.getElem?_cons_zero, List.getElem?_cons_succ, List.append_nil]; exact rfl) | exact rfl) ?_
  refine sq_alloc rfl rfl rfl rfl Try.zeroValue74 rfl ?_
  intro b4
  refine sq_storeB0 0 rfl rfl rfl (ev_tmp rfl) (ev_tmp rfl) (as_agg _) rfl Try.sizeOf74 rfl ?_
  refine sq_plain rfl rfl rfl (w_assign rfl (ev_tmp rfl)) ?_
  refine sq_nil ?_
  refine awp_seq ?_
  refine awp_seq ?_
  refine awp_own (by first | (simp only [TAtlas.owF, TAtlas.ocF, TAtlas.ow, TAtlas.ocs, TPlaces.ow, TPlaces.ocs, pick, List.eraseIdx_cons_zero, List.eraseIdx_cons_succ, List.set_cons_zero, List.set_cons_succ, List.cons_append, List.nil_append, List.getElem?_cons_zero, List.getElem?_cons_succ, List.append_nil, List.take_succ_cons, List.take_zero, List.drop_succ_cons, List.drop_zero]; exact rfl) | exact rfl) ?_
  refine awp_region ?_
  refine sq_plain rfl rfl rfl (w_move rfl (ev_tmp rfl)) ?_
  refine sq_callG [3] rfl rfl rfl rfl Try.call86 rfl (curPick_own _ _ hcode _ _ (by omega) (by omega)) (evl_cons (ev_tmp rfl) (evl_cons ev_ci evl_nil)) rfl ?_
  intro x24 ok24
  refine sq_plain rfl rfl rfl (w_assign rfl (ev_tmp rfl)) ?_
  refine sq_nil ?_
  refine awp_block ?_
  refine awp_own (by first | (simp only [TAtlas.owF, TAtlas.ocF, TAtlas.ow, TAtlas.ocs, TPlaces.ow, TPlaces.ocs, pick, List.eraseIdx_cons_zero, List.eraseIdx_cons_succ, List.set_cons_zero, List.set_cons_succ, List.cons_append, List.nil_append, List.getElem?_cons_zero, List.getElem?_cons_succ, List.append_nil, List.take_succ_cons, List.take_zero, List.drop_succ_cons, List.drop_zero]; exact rfl) | exact rfl) ?_
  refine AWP.le (le_pick [1, 1, 1, 0] rfl) ?_
  refine awp_loop_i4 [(0, _), (2, _), (4, _)] _ (fun (n : Int) (cc : TCur) (a : TAtlas) (y : Value × Value) => (0 ≤ n ∧ n ≤ 13) ∧ cc.p + 12 * n ≤ c.p + 210 ∧ goodAtlas a = true) (fun (n : Int) (cc : TCur) (a : TAtlas) (y : Value × Value) => [.box b4 74 (TAtlas.ocF y), .arr y.1 57 3 (a.Maps.map TPlaces.cs), .arr y.2 3 1 (a.Knows.map fun x => [AV.int x]), .box b 112 (curC code cc)]) (fun (n : Int) (cc : TCur) (a : TAtlas) (y : Value × Value) => [(6, AV.int n)]) (fun (n : Int) (cc : TCur) (a : TAtlas) (y : Value × Value) => n.toNat) (x24.2) (x24.1) (a0) (x20) ?_ (le_eq (by rfl) ⟨rfl, rfl, rfl, rfl, trivial⟩) ?_
  · exact ⟨by omega, by omega, hna⟩
  intro n cc a y hinv
  obtain ⟨f1, f2, f3, f4⟩ := atlas_facts hinv.2.2
  have hlg := (lastM_good hinv.2.2).2
  have hla := atlas_last hinv.2.2
  have hsa := atlas_size hinv.2.2
  have hsl := good_size hlg
  refine awp_seq ?_
  refine awp_seq ?_
  refine awp_own (by first | (simp only [TAtlas.owF, TAtlas.ocF, TAtlas.ow, TAtlas.ocs, TPlaces.ow, TPlaces.ocs, pick, List.eraseIdx_cons_zero, List.eraseIdx_cons_succ, List.set_cons_zero, List.set_cons_succ, List.cons_append, List.nil_append, List.getElem?_cons_zero, List.getElem?_cons_succ, List.append_nil, List.take_succ_cons, List.take_zero, List.drop_succ_cons, List.drop_zero]; exact rfl) | exact rfl) ?_
  refine awp_region ?_
  refine sq_plain rfl rfl rfl (w_move rfl (ev_tmp rfl)) ?_
  refine sq_plain rfl rfl rfl (w_gtr rfl (ev_tmp rfl) ev_ci) ?_
  refine sq_nil ?_
  refine awp_cond (ev_tmp rfl) ?_ ?_
  · intro h26
    have k26 := of_decide_eq_true h26; try simp only [List.length_map] at k26
    refine awp_skip ?_
    refine awp_seq ?_
    refine awp_block ?_
    refine awp_seq ?_
    refine awp_seq ?_
    refine awp_own (by first | (simp only [TAtlas.owF, TAtlas.ocF, TAtlas.ow, TAtlas.ocs, TPlaces.ow, TPlaces.ocs, pick, List.eraseIdx_cons_zero, List.eraseIdx_cons_succ, List.set_cons_zero, List.set_cons_succ, List.cons_append, List.nil_append, List.getElem?_cons_zero, List.getElem?_cons_succ, List.append_nil, List.take_succ_cons, List.take_zero, List.drop_succ_cons, List.drop_zero]; exact rfl) | exact rfl) ?_
    refine awp_region ?_
    refine sq_plain rfl rfl rfl (w_move rfl (ev_tmp rfl)) ?_
    refine sq_plain rfl rfl rfl (w_fldBn 0 rfl Try.underlying74 rfl Try.sizeOf72 (ev_tmp rfl) rfl) ?_
    refine sq_plain rfl rfl rfl (w_loadB1 0 rfl (ev_tmp rfl) rfl Try.isAgg72 rfl) ?_
    refine sq_plain rfl rfl rfl (w_fldBn 0 rfl Try.underlying74 rfl Try.sizeOf72 (ev_tmp rfl) rfl) ?_
    refine sq_plain rfl rfl rfl (w_loadB1 0 rfl (ev_tmp rfl) rfl Try.isAgg72 rfl) ?_
    refine sq_plain rfl rfl rfl (w_alen 1 rfl Try.underlying72 (ev_tmp rfl) rfl) ?_
    refine sq_plain rfl rfl rfl (w_subi rfl (ev_tmp rfl) ev_ci (by first | omega | ((try simp only [List.length_map, List.length_take, List.length_cons, List.length_nil, chunks_len, szR] at *); omega) | (have hc2 := hc; simp only [Bool.and_eq_true, Bool.or_eq_true, Bool.or_eq_false_iff, Bool.and_eq_false_iff, Bool.not_eq_true', Bool.not_eq_false', decide_eq_true_eq, decide_eq_false_iff_not, beq_iff_eq, bne_iff_ne, List.length_map, List.length_take] at hc2; omega))) ?_
    refine sq_plain rfl rfl rfl (w_aidx 1 rfl Try.underlying72 Try.sizeOf57 (ev_tmp rfl) rfl (ev_tmp rfl) (by simp only [List.length_map]; omega) (by simp only [List.length_map]; omega)) ?_
    refine sq_plain rfl rfl rfl (w_loadX 1 rfl (ev_tmp rfl) rfl Try.isAgg57 Try.sizeOf57 (by first | exact hla | (simp only [List.length_map]; exact hla)) (by decide)) ?_
    refine sq_callG [3] rfl rfl rfl rfl Try.call128 rfl (curNextPlaces_own _ _ hcode _ (lastM a) (by omega) (by omega)) (evl_cons (ev_tmp rfl) (evl_cons (ev_tmp rfl) evl_nil)) rfl ?_
    intro x39 ok39
    refine sq_plain rfl rfl rfl (w_move rfl (ev_tmp rfl)) ?_
    refine sq_plain rfl rfl rfl (w_extract rfl (ev_tmp rfl) rfl) ?_
    refine sq_plain rfl rfl rfl (w_extract rfl (ev_tmp rfl) rfl) ?_
    refine sq_alloc rfl rfl rfl rfl Try.zeroValue57 rfl ?_
    intro b7
    refine sq_storeB0 0 rfl rfl rfl (ev_tmp rfl) (ev_tmp rfl) (as_agg _) rfl Try.sizeOf57 rfl ?_
    refine sq_plain rfl rfl rfl (w_assign rfl (ev_tmp rfl)) ?_
    refine sq_nil ?_
    refine awp_seq ?_
    refine awp_region ?_
    refine sq_plain rfl rfl rfl (w_move rfl (ev_tmp rfl)) ?_
    refine sq_nil ?_
    refine awp_cond (ev_tmp rfl) ?_ ?_
    · intro h42
      refine awp_seq ?_
      refine awp_own (by first | (simp only [TAtlas.owF, TAtlas.ocF, TAtlas.ow, TAtlas.ocs, TPlaces.ow, TPlaces.ocs, pick, List.eraseIdx_cons_zero, List.eraseIdx_cons_succ, List.set_cons_zero, List.set_cons_succ, List.cons_append, List.nil_append, List.getElem?_cons_zero, List.getElem?_cons_succ, List.append_nil, List.take_succ_cons, List.take_zero, List.drop_succ_cons, List.drop_zero]; exact rfl) | exact rfl) ?_
      refine awp_region ?_
      refine sq_plain rfl rfl rfl (w_loadA 2 rfl (ev_tmp rfl) rfl Try.isAgg74 Try.sizeOf74 rfl) ?_
      refine sq_plain rfl rfl rfl (w_loadA 0 rfl (ev_tmp rfl) rfl Try.isAgg57 Try.sizeOf57 rfl) ?_
      refine sq_callGB [] rfl rfl rfl rfl Try.call48 rfl (addMapS_own a x39.2.1 (by omega) (by omega)) rfl (evlb_cons (evb_lt (ev_tmp rfl) (lt_agg (lc_cons (lt_arr (List.mem_of_getElem? (i := 3) rfl) le_refl_e) (lc_cons (lt_arr (List.mem_of_getElem? (i := 4) rfl) le_refl_e) lc_nil)))) (evlb_cons (evb (ev_tmp rfl)) evlb_nil)) (by first | exact flatO_nil | (intro _; exact flatO_nil) | (intro _; first | exact flat_is _ | exact flat_ik _ _ | exact flat_bool _ | exact flat_str _ | exact flat_nils) | (intro _; refine flat_tup ?_; (repeat (first | exact flatl_nil | (refine flatl_cons (by first | (first | exact flat_is _ | exact flat_ik _ _ | exact flat_bool _ | exact flat_str _ | exact flat_nils) | (refine flat_agg ?_; (repeat (first | exact flatl_nil | (refine flatl_cons (by first | exact flat_is _ | exact flat_ik _ _ | exact flat_bool _ | exact flat_str _ | exact flat_nils) ?_))))) ?_))); done) | (intro _; refine flat_agg ?_; (repeat (first | exact flatl_nil | (refine flatl_cons (by first | exact flat_is _ | exact flat_ik _ _ | exact flat_bool _ | exact flat_str _ | exact flat_nils) ?_))); done) | ((repeat (first | exact flatO_nil | (refine flatO_cons (flatO_box ?_) ?_; (repeat (first | exact flatl_nil | (refine flatl_cons (by first | exact flat_is _ | exact flat_ik _ _ | exact flat_bool _ | exact flat_str _ | exact flat_nils) ?_)))) | (refine flatO_cons (flatO_arr ?_) ?_; (repeat (first | exact flate_nil | (refine flate_map (fun _ => ?_); (first | exact TWrite.flat _ | exact TFeedItem.flat _ | exact TIdx.flat _ | exact TVer.flat _ | (repeat (first | exact flatl_nil | (refine flatl_cons (by first | exact flat_is _ | exact flat_ik _ _ | exact flat_bool _ | exact flat_str _ | exact flat_nils) ?_))))) | (refine flate_rep ?_; (first | exact TWrite.flat _ | exact TFeedItem.flat _ | exact TIdx.flat _ | exact TVer.flat _ | (repeat (first | exact flatl_nil | (refine flatl_cons (by first | exact flat_is _ | exact flat_ik _ _ | exact flat_bool _ | exact flat_str _ | exact flat_nils) ?_))))) | (refine flate_cons ?_ ?_; (first | exact TWrite.flat _ | exact TFeedItem.flat _ | exact TIdx.flat _ | exact TVer.flat _ | (repeat (first | exact flatl_nil | (refine flatl_cons (by first | exact flat_is _ | exact flat_ik _ _ | exact flat_bool _ | exact flat_str _ | exact flat_nils) ?_))))) | refine flate_app ?_ ?_))))); done) | (intro _; (repeat (first | exact flatO_nil | (refine flatO_cons (flatO_box ?_) ?_; (repeat (first | exact flatl_nil | (refine flatl_cons (by first | exact flat_is _ | exact flat_ik _ _ | exact flat_bool _ | exact flat_str _ | exact flat_nils) ?_)))) | (refine flatO_cons (flatO_arr ?_) ?_; (repeat (first | exact flate_nil | (refine flate_map (fun _ => ?_); (first | exact TWrite.flat _ | exact TFeedItem.flat _ | exact TIdx.flat _ | exact TVer.flat _ | (repeat (first | exact flatl_nil | (refine flatl_cons (by first | exact flat_is _ | exact flat_ik _ _ | exact flat_bool _ | exact flat_str _ | exact flat_nils) ?_))))) | (refine flate_rep ?_; (first | exact TWrite.flat _ | exact TFeedItem.flat _ | exact TIdx.flat _ | exact TVer.flat _ | (repeat (first | exact flatl_nil | (refine flatl_cons (by first | exact flat_is _ | exact flat_ik _ _ | exact flat_bool _ | exact flat_str _ | exact flat_nils) ?_))))) | (refine flate_cons ?_ ?_; (first | exact TWrite.flat _ | exact TFeedItem.flat _ | exact TIdx.flat _ | exact TVer.flat _ | (repeat (first | exact flatl_nil | (refine flatl_cons (by first | exact flat_is _ | exact flat_ik _ _ | exact flat_bool _ | exact flat_str _ | exact flat_nils) ?_))))) | refine flate_app ?_ ?_))))); done)) (fun x => TAtlas.flatV _ x _) (fun x => TAtlas.flatW _ x) ?_
      intro x46 ok46
      refine sq_le (le_mid (NT := nin TPlaces.ow (addMapS a x39.2.1).1.Maps x46.2.2) 2 7 (perm_lin)) ?_
      refine sq_plain rfl rfl rfl (w_move rfl (ev_tmp rfl)) ?_
      refine sq_plain rfl rfl rfl (w_extract rfl (ev_tmp rfl) rfl) ?_
      refine sq_plain rfl rfl rfl (w_extract rfl (ev_tmp rfl) rfl) ?_
      refine sq_le (le_sealT 9 0 (.arr x46.1 57 3 ((addMapS a x39.2.1).1.Maps.map TPlaces.cs)) rfl (⟨rfl, rfl, rfl, nin_lendE TPlaces.lcM ok46 (fun _ ho => ho)⟩) (gin_cons 3 rfl rfl gin_nil)) ?_
      refine sq_alloc rfl rfl rfl rfl Try.zeroValue74 rfl ?_
      intro b9
      refine sq_storeB0 0 rfl rfl rfl (ev_tmp rfl) (ev_tmp rfl) (as_agg _) rfl Try.sizeOf74 rfl ?_
      refine sq_plain rfl rfl rfl (w_assign rfl (ev_tmp rfl)) ?_
      refine sq_nil ?_
      refine awp_seq ?_
      refine awp_own (by first | (simp only [TAtlas.owF, TAtlas.ocF, TAtlas.ow, TAtlas.ocs, TPlaces.ow, TPlaces.ocs, pick, List.eraseIdx_cons_zero, List.eraseIdx_cons_succ, List.set_cons_zero, List.set_cons_succ, List.cons_append, List.nil_append, List.getElem?_cons_zero, List.getElem?_cons_succ, List.append_nil, List.take_succ_cons, List.take_zero, List.drop_succ_cons, List.drop_zero]; exact rfl) | exact rfl) ?_
      refine awp_region ?_
      refine sq_plain rfl rfl rfl (w_move rfl (ev_tmp rfl)) ?_
      refine sq_nil ?_
      refine awp_cond (ev_tmp rfl) ?_ ?_
      · intro h49
        obtain ⟨a2, ha2⟩ : ∃ a2, (addMapS a x39.2.1).1 = a2 := ⟨_, rfl⟩
        have hg2 : goodAtlas a2 = true := by (rw [← ha2, ← addMap_eq]; exact (addMap_ok (by rw [addMap_eq]; exact h49)).2.2.2.2)
        rw [ha2]
        refine awp_region ?_
        refine sq_plain rfl rfl rfl (w_loadA 0 rfl (ev_tmp rfl) rfl Try.isAgg74 Try.sizeOf74 rfl) ?_
        refine sq_storeB0 5 rfl rfl rfl (ev_tmp rfl) (ev_tmp rfl) (as_agg _) rfl Try.sizeOf74 rfl ?_
        refine sq_nil ?_
        refine awp_seq ?_
        refine awp_own (by first | (simp only [TAtlas.owF, TAtlas.ocF, TAtlas.ow, TAtlas.ocs, TPlaces.ow, TPlaces.ocs, pick, List.eraseIdx_cons_zero, List.eraseIdx_cons_succ, List.set_cons_zero, List.set_cons_succ, List.cons_append, List.nil_append, List.getElem?_cons_zero, List.getElem?_cons_succ, List.append_nil, List.take_succ_cons, List.take_zero, List.drop_succ_cons, List.drop_zero]; exact rfl) | exact rfl) ?_
        refine awp_region ?_
        refine sq_plain rfl rfl rfl (w_move rfl (ev_tmp rfl)) ?_
        refine sq_callG [4] rfl rfl rfl rfl Try.call109 rfl (curOne_own _ _ hcode _ _ (by omega) (by omega)) (evl_cons (ev_tmp rfl) (evl_cons ev_ci evl_nil)) rfl ?_
        intro x52 ok52
        refine sq_nil ?_
        refine awp_cond (ev_tmp rfl) ?_ ?_
        · intro h52
          obtain ⟨e1, e2, e3, e4⟩ := atlas_facts hg2
          have hs2 := atlas_size hg2
          refine awp_seq ?_
          refine AWP.le (le_sealO [2, 2] 3 (.box b4 74 a2.cs) rfl rfl ⟨rfl, rfl, (lc_cons (lt_arr (List.mem_of_getElem? (i := 0) rfl) le_refl_e) (lc_cons (lt_arr (List.mem_of_getElem? (i := 1) rfl) le_refl_e) lc_nil))⟩ (gin_cons 0 rfl rfl gin_nil)) ?_
          refine awp_own (by first | (simp only [TAtlas.owF, TAtlas.ocF, TAtlas.ow, TAtlas.ocs, TPlaces.ow, TPlaces.ocs, pick, List.eraseIdx_cons_zero, List.eraseIdx_cons_succ, List.set_cons_zero, List.set_cons_succ, List.cons_append, List.nil_append, List.getElem?_cons_zero, List.getElem?_cons_succ, List.append_nil, List.take_succ_cons, List.take_zero, List.drop_succ_cons, List.drop_zero]; exact rfl) | exact rfl) ?_
          refine AWP.le (le_pick [3] rfl) ?_
          refine awp_region_tree _ 14 (.pure 0 (.pure 1 (.pure 3 (.pure 4 (.pure 5 (.pure 6 (.e2 2 (.e2 7 (.e2 8 (.pure 9 (.pure 10 (.pure 11 (.e1 12 (.e1 13 .nil))))) 12 (.e1 8 (.pure 9 (.pure 10 (.pure 11 (.e1 13 .nil)))))) 12 (.e1 7 (.e1 8 (.pure 9 (.pure 10 (.pure 11 (.e1 13 .nil))))))) 12 (.e1 2 (.e1 7 (.e1 8 (.pure 9 (.pure 10 (.pure 11 (.e1 13 .nil)))))))))))))) (by kernel_rfl) (by kernel_rfl) rfl (invx_take 1) ?_
          refine bt_plain rfl rfl rfl (fun ext => w_loadA 0 rfl (ev_tmp rfl) rfl Try.isAgg74 Try.sizeOf74 rfl) ?_
          refine bt_plain rfl rfl rfl (fun ext => w_move rfl (ev_tmp rfl)) ?_
          refine bt_plain rfl rfl rfl (fun ext => w_move rfl (ev_tmp rfl)) ?_
          refine bt_plain rfl rfl rfl (fun ext => w_fldBn 0 rfl Try.underlying74 rfl Try.sizeOf72 (ev_tmp rfl) rfl) ?_
          refine bt_plain rfl rfl rfl (fun ext => w_loadB1 0 rfl (ev_tmp rfl) rfl Try.isAgg72 rfl) ?_
          refine bt_plain rfl rfl rfl (fun ext => w_llen rfl Try.underlying72 (ev_tmp rfl)) ?_
          refine bt_e2 ?_ ?_
          · refine eff_s rfl rfl rfl (opE_call [1] rfl Try.call86 rfl (curPick_own _ _ hcode _ _ (by omega) (by omega)) (evl_cons (ev_tmp rfl) (evl_cons ev_ci evl_nil)) rfl) (fun a _ => (by first | exact invx_mk rfl | exact invx_mk (List.append_assoc _ _ _) | exact invx_all)) ?_
            intro x56 ok56
            refine bt_e2 ?_ ?_
            · refine eff_s rfl rfl rfl (opE_call [7] rfl Try.call86 rfl (curPick_own _ _ hcode _ _ (by simp only [List.length_map]; omega) (by omega)) (evl_cons (ev_tmp rfl) (evl_cons (ev_tmp rfl) evl_nil)) rfl) (fun a _ => (by first | exact invx_mk rfl | exact invx_mk (List.append_assoc _ _ _) | exact invx_all)) ?_
              intro x61 ok61
              refine bt_e2 ?_ ?_
              · refine eff_s rfl rfl rfl (opE_call [] rfl Try.call51 rfl (tellGroupS_ownF a2 x56.2 x61.2 (by omega)) (evl_cons (ev_tmp rfl) (evl_cons (ev_tmp rfl) (evl_cons (ev_tmp rfl) evl_nil))) rfl) (fun a _ => (by first | exact invx_mk rfl | exact invx_mk (List.append_assoc _ _ _) | exact invx_all)) ?_
                intro x62 ok62
                refine bt_plain rfl rfl rfl (fun ext => w_move rfl (ev_tmp rfl)) ?_
                refine bt_plain rfl rfl rfl (fun ext => w_extract rfl (ev_tmp rfl) rfl) ?_
                refine bt_plain rfl rfl rfl (fun ext => w_extract rfl (ev_tmp rfl) rfl) ?_
                refine bt_e1 ?_
                refine eff_s rfl rfl rfl (opE_alloc rfl Try.zeroValue74 rfl) (fun a _ => (by first | exact invx_mk rfl | exact invx_mk (List.append_assoc _ _ _) | exact invx_all)) ?_
                intro b11 _
                refine bt_e1 ?_
                refine eff_s0 rfl rfl rfl (opE_storeB0 10 rfl rfl (ev_tmp rfl) (ev_tmp rfl) (as_agg _) rfl Try.sizeOf74 rfl) (fun a _ => (by first | exact invx_mk rfl | exact invx_mk (List.append_assoc _ _ _) | exact invx_all)) ?_
                intro _ _
                refine bt_nil ?_
                refine sq_plain rfl rfl rfl (w_assign rfl (ev_tmp rfl)) ?_
                refine sq_nil ?_
                refine awp_seq ?_
                refine awp_own (by first | (simp only [TAtlas.owF, TAtlas.ocF, TAtlas.ow, TAtlas.ocs, TPlaces.ow, TPlaces.ocs, pick, List.eraseIdx_cons_zero, List.eraseIdx_cons_succ, List.set_cons_zero, List.set_cons_succ, List.cons_append, List.nil_append, List.getElem?_cons_zero, List.getElem?_cons_succ, List.append_nil, List.take_succ_cons, List.take_zero, List.drop_succ_cons, List.drop_zero]; exact rfl) | exact rfl) ?_
                refine awp_region ?_
                refine sq_plain rfl rfl rfl (w_move rfl (ev_tmp rfl)) ?_
                refine sq_nil ?_
                refine awp_cond (ev_tmp rfl) ?_ ?_
                · intro h65
                  obtain ⟨a3, ha3⟩ : ∃ a3, (tellGroupS a2 x56.2 x61.2).1 = a3 := ⟨_, rfl⟩
                  have hg3 : goodAtlas a3 = true := by (rw [← ha3, ← tellGroup_eq]; exact tellGroup_good (by rw [tellGroup_eq]; exact h65))
                  rw [ha3]
                  obtain ⟨cc3, hc3⟩ : ∃ cc3, x61.1 = cc3 := ⟨_, rfl⟩
                  rw [hc3] at ok61
                  rw [hc3]
                  refine awp_own (by first | (simp only [TAtlas.owF, TAtlas.ocF, TAtlas.ow, TAtlas.ocs, TPlaces.ow, TPlaces.ocs, pick, List.eraseIdx_cons_zero, List.eraseIdx_cons_succ, List.set_cons_zero, List.set_cons_succ, List.cons_append, List.nil_append, List.getElem?_cons_zero, List.getElem?_cons_succ, List.append_nil, List.take_succ_cons, List.take_zero, List.drop_succ_cons, List.drop_zero]; exact rfl) | exact rfl) ?_
                  refine awp_region ?_
                  refine sq_plain rfl rfl rfl (w_loadA 10 rfl (ev_tmp rfl) rfl Try.isAgg74 Try.sizeOf74 rfl) ?_
                  refine sq_storeB0 0 rfl rfl rfl (ev_tmp rfl) (ev_tmp rfl) (as_agg _) rfl Try.sizeOf74 rfl ?_
                  refine sq_nil ?_
                  refine awp_own (by first | (simp only [TAtlas.owF, TAtlas.ocF, TAtlas.ow, TAtlas.ocs, TPlaces.ow, TPlaces.ocs, pick, List.eraseIdx_cons_zero, List.eraseIdx_cons_succ, List.set_cons_zero, List.set_cons_succ, List.cons_append, List.nil_append, List.getElem?_cons_zero, List.getElem?_cons_succ, List.append_nil, List.take_succ_cons, List.take_zero, List.drop_succ_cons, List.drop_zero]; exact rfl) | exact rfl) ?_
                  refine awp_region ?_
                  refine sq_plain rfl rfl rfl (w_move rfl (ev_tmp rfl)) ?_
                  refine sq_plain rfl rfl rfl (w_subi rfl (ev_tmp rfl) ev_ci (by first | omega | ((try simp only [List.length_map, List.length_take, List.length_cons, List.length_nil, chunks_len, szR] at *); omega) | (have hc2 := hc; simp only [Bool.and_eq_true, Bool.or_eq_true, Bool.or_eq_false_iff, Bool.and_eq_false_iff, Bool.not_eq_true', Bool.not_eq_false', decide_eq_true_eq, decide_eq_false_iff_not, beq_iff_eq, bne_iff_ne, List.length_map, List.length_take] at hc2; omega))) ?_
                  refine sq_plain rfl rfl rfl (w_assign rfl (ev_tmp rfl)) ?_
                  refine sq_nil ?_
                  refine round_end4 n cc a y (n - 1) (cc3) (a3) ((x62.1, x62.2)) ?_ ?_ (Le.trans (le_pick [1, 1, 1, 1, 6, 0, 3, 3, 2] rfl) (le_dropeq 5 (by rfl) ⟨rfl, rfl, rfl, rfl, trivial⟩))
                  · exact ⟨by omega, by omega, hg3⟩
                  · omega
                · intro h65
                  exfalso; simp only [List.length_map] at ok61; rw [tell_ok hg2 (by omega) (by omega)] at h65; cases h65
              · refine eff_s rfl rfl rfl (opE_alloc rfl Try.zeroValue74 rfl) (fun a _ => (by first | exact invx_mk rfl | exact invx_mk (List.append_assoc _ _ _) | exact invx_all)) ?_
                intro b11 _
                refine bt_e1 ?_
                refine eff_s rfl rfl rfl (opE_call [] rfl Try.call51 rfl (tellGroupS_ownF a2 x56.2 x61.2 (by omega)) (evl_cons (ev_tmp rfl) (evl_cons (ev_tmp rfl) (evl_cons (ev_tmp rfl) evl_nil))) rfl) (fun a _ => (by first | exact invx_mk rfl | exact invx_mk (List.append_assoc _ _ _) | exact invx_all)) ?_
                intro x62 ok62
                refine bt_plain rfl rfl rfl (fun ext => w_move rfl (ev_tmp rfl)) ?_
                refine bt_plain rfl rfl rfl (fun ext => w_extract rfl (ev_tmp rfl) rfl) ?_
                refine bt_plain rfl rfl rfl (fun ext => w_extract rfl (ev_tmp rfl) rfl) ?_
                refine bt_e1 ?_
                refine eff_s0 rfl rfl rfl (opE_storeB0 8 rfl rfl (ev_tmp rfl) (ev_tmp rfl) (as_agg _) rfl Try.sizeOf74 rfl) (fun a _ => (by first | exact invx_mk rfl | exact invx_mk (List.append_assoc _ _ _) | exact invx_all)) ?_
                intro _ _
                refine bt_nil ?_
                refine sq_plain rfl rfl rfl (w_assign rfl (ev_tmp rfl)) ?_
                refine sq_nil ?_
                refine awp_seq ?_
                refine awp_own (by first | (simp only [TAtlas.owF, TAtlas.ocF, TAtlas.ow, TAtlas.ocs, TPlaces.ow, TPlaces.ocs, pick, List.eraseIdx_cons_zero, List.eraseIdx_cons_succ, List.set_cons_zero, List.set_cons_succ, List.cons_append, List.nil_append, List.getElem?_cons_zero, List.getElem?_cons_succ, List.append_nil, List.take_succ_cons, List.take_zero, List.drop_succ_cons, List.drop_zero]; exact rfl) | exact rfl) ?_
                refine awp_region ?_
                refine sq_plain rfl rfl rfl (w_move rfl (ev_tmp rfl)) ?_
                refine sq_nil ?_
                refine awp_cond (ev_tmp rfl) ?_ ?_
                · intro h65
                  obtain ⟨a3, ha3⟩ : ∃ a3, (tellGroupS a2 x56.2 x61.2).1 = a3 := ⟨_, rfl⟩
                  have hg3 : goodAtlas a3 = true := by (rw [← ha3, ← tellGroup_eq]; exact tellGroup_good (by rw [tellGroup_eq]; exact h65))
                  rw [ha3]
                  obtain ⟨cc3, hc3⟩ : ∃ cc3, x61.1 = cc3 := ⟨_, rfl⟩
                  rw [hc3] at ok61
                  rw [hc3]
                  refine awp_own (by first | (simp only [TAtlas.owF, TAtlas.ocF, TAtlas.ow, TAtlas.ocs, TPlaces.ow, TPlaces.ocs, pick, List.eraseIdx_cons_zero, List.eraseIdx_cons_succ, List.set_cons_zero, List.set_cons_succ, List.cons_append, List.nil_append, List.getElem?_cons_zero, List.getElem?_cons_succ, List.append_nil, List.take_succ_cons, List.take_zero, List.drop_succ_cons, List.drop_zero]; exact rfl) | exact rfl) ?_
                  refine awp_region ?_
                  refine sq_plain rfl rfl rfl (w_loadA 8 rfl (ev_tmp rfl) rfl Try.isAgg74 Try.sizeOf74 rfl) ?_
                  refine sq_storeB0 0 rfl rfl rfl (ev_tmp rfl) (ev_tmp rfl) (as_agg _) rfl Try.sizeOf74 rfl ?_
                  refine sq_nil ?_
                  refine awp_own (by first | (simp only [TAtlas.owF, TAtlas.ocF, TAtlas.ow, TAtlas.ocs, TPlaces.ow, TPlaces.ocs, pick, List.eraseIdx_cons_zero, List.eraseIdx_cons_succ, List.set_cons_zero, List.set_cons_succ, List.cons_append, List.nil_append, List.getElem?_cons_zero, List.getElem?_cons_succ, List.append_nil, List.take_succ_cons, List.take_zero, List.drop_succ_cons, List.drop_zero]; exact rfl) | exact rfl) ?_
                  refine awp_region ?_
                  refine sq_plain rfl rfl rfl (w_move rfl (ev_tmp rfl)) ?_
                  refine sq_plain rfl rfl rfl (w_subi rfl (ev_tmp rfl) ev_ci (by first | omega | ((try simp only [List.length_map, List.length_take, List.length_cons, List.length_nil, chunks_len, szR] at *); omega) | (have hc2 := hc; simp only [Bool.and_eq_true, Bool.or_eq_true, Bool.or_eq_false_iff, Bool.and_eq_false_iff, Bool.not_eq_true', Bool.not_eq_false', decide_eq_true_eq, decide_eq_false_iff_not, beq_iff_eq, bne_iff_ne, List.length_map, List.length_take] at hc2; omega))) ?_
                  refine sq_plain rfl rfl rfl (w_assign rfl (ev_tmp rfl)) ?_
                  refine sq_nil ?_
                  refine round_end4 n cc a y (n - 1) (cc3) (a3) ((x62.1, x62.2)) ?_ ?_ (Le.trans (le_pick [1, 1, 1, 1, 4, 0, 3, 3, 2] rfl) (le_dropeq 5 (by rfl) ⟨rfl, rfl, rfl, rfl, trivial⟩))
                  · exact ⟨by omega, by omega, hg3⟩
                  · omega
                · intro h65
                  exfalso; simp only [List.length_map] at ok61; rw [tell_ok hg2 (by omega) (by omega)] at h65; cases h65
            · refine eff_s rfl rfl rfl (opE_alloc rfl Try.zeroValue74 rfl) (fun a _ => (by first | exact invx_mk rfl | exact invx_mk (List.append_assoc _ _ _) | exact invx_all)) ?_
              intro b11 _
              refine bt_e1 ?_
              refine eff_s rfl rfl rfl (opE_call [7] rfl Try.call86 rfl (curPick_own _ _ hcode _ _ (by simp only [List.length_map]; omega) (by omega)) (evl_cons (ev_tmp rfl) (evl_cons (ev_tmp rfl) evl_nil)) rfl) (fun a _ => (by first | exact invx_mk rfl | exact invx_mk (List.append_assoc _ _ _) | exact invx_all)) ?_
              intro x61 ok61
              refine bt_e1 ?_
              refine eff_s rfl rfl rfl (opE_call [] rfl Try.call51 rfl (tellGroupS_ownF a2 x56.2 x61.2 (by omega)) (evl_cons (ev_tmp rfl) (evl_cons (ev_tmp rfl) (evl_cons (ev_tmp rfl) evl_nil))) rfl) (fun a _ => (by first | exact invx_mk rfl | exact invx_mk (List.append_assoc _ _ _) | exact invx_all)) ?_
              intro x62 ok62
              refine bt_plain rfl rfl rfl (fun ext => w_move rfl (ev_tmp rfl)) ?_
              refine bt_plain rfl rfl rfl (fun ext => w_extract rfl (ev_tmp rfl) rfl) ?_
              refine bt_plain rfl rfl rfl (fun ext => w_extract rfl (ev_tmp rfl) rfl) ?_
              refine bt_e1 ?_
              refine eff_s0 rfl rfl rfl (opE_storeB0 7 rfl rfl (ev_tmp rfl) (ev_tmp rfl) (as_agg _) rfl Try.sizeOf74 rfl) (fun a _ => (by first | exact invx_mk rfl | exact invx_mk (List.append_assoc _ _ _) | exact invx_all)) ?_
              intro _ _
              refine bt_nil ?_
              refine sq_plain rfl rfl rfl (w_assign rfl (ev_tmp rfl)) ?_
              refine sq_nil ?_
              refine awp_seq ?_
              refine awp_own (by first | (simp only [TAtlas.owF, TAtlas.ocF, TAtlas.ow, TAtlas.ocs, TPlaces.ow, TPlaces.ocs, pick, List.eraseIdx_cons_zero, List.eraseIdx_cons_succ, List.set_cons_zero, List.set_cons_succ, List.cons_append, List.nil_append, List.getElem?_cons_zero, List.getElem?_cons_succ, List.append_nil, List.take_succ_cons, List.take_zero, List.drop_succ_cons, List.drop_zero]; exact rfl) | exact rfl) ?_
              refine awp_region ?_
              refine sq_plain rfl rfl rfl (w_move rfl (ev_tmp rfl)) ?_
              refine sq_nil ?_
              refine awp_cond (ev_tmp rfl) ?_ ?_
              · intro h65
                obtain ⟨a3, ha3⟩ : ∃ a3, (tellGroupS a2 x56.2 x61.2).1 = a3 := ⟨_, rfl⟩
                have hg3 : goodAtlas a3 = true := by (rw [← ha3, ← tellGroup_eq]; exact tellGroup_good (by rw [tellGroup_eq]; exact h65))
                rw [ha3]
                obtain ⟨cc3, hc3⟩ : ∃ cc3, x61.1 = cc3 := ⟨_, rfl⟩
                rw [hc3] at ok61
                rw [hc3]
                refine awp_own (by first | (simp only [TAtlas.owF, TAtlas.ocF, TAtlas.ow, TAtlas.ocs, TPlaces.ow, TPlaces.ocs, pick, List.eraseIdx_cons_zero, List.eraseIdx_cons_succ, List.set_cons_zero, List.set_cons_succ, List.cons_append, List.nil_append, List.getElem?_cons_zero, List.getElem?_cons_succ, List.append_nil, List.take_succ_cons, List.take_zero, List.drop_succ_cons, List.drop_zero]; exact rfl) | exact rfl) ?_
                refine awp_region ?_
                refine sq_plain rfl rfl rfl (w_loadA 7 rfl (ev_tmp rfl) rfl Try.isAgg74 Try.sizeOf74 rfl) ?_
                refine sq_storeB0 0 rfl rfl rfl (ev_tmp rfl) (ev_tmp rfl) (as_agg _) rfl Try.sizeOf74 rfl ?_
                refine sq_nil ?_
                refine awp_own (by first | (simp only [TAtlas.owF, TAtlas.ocF, TAtlas.ow, TAtlas.ocs, TPlaces.ow, TPlaces.ocs, pick, List.eraseIdx_cons_zero, List.eraseIdx_cons_succ, List.set_cons_zero, List.set_cons_succ, List.cons_append, List.nil_append, List.getElem?_cons_zero, List.getElem?_cons_succ, List.append_nil, List.take_succ_cons, List.take_zero, List.drop_succ_cons, List.drop_zero]; exact rfl) | exact rfl) ?_
                refine awp_region ?_
                refine sq_plain rfl rfl rfl (w_move rfl (ev_tmp rfl)) ?_
                refine sq_plain rfl rfl rfl (w_subi rfl (ev_tmp rfl) ev_ci (by first | omega | ((try simp only [List.length_map, List.length_take, List.length_cons, List.length_nil, chunks_len, szR] at *); omega) | (have hc2 := hc; simp only [Bool.and_eq_true, Bool.or_eq_true, Bool.or_eq_false_iff, Bool.and_eq_false_iff, Bool.not_eq_true', Bool.not_eq_false', decide_eq_true_eq, decide_eq_false_iff_not, beq_iff_eq, bne_iff_ne, List.length_map, List.length_take] at hc2; omega))) ?_
                refine sq_plain rfl rfl rfl (w_assign rfl (ev_tmp rfl)) ?_
                refine sq_nil ?_
                refine round_end4 n cc a y (n - 1) (cc3) (a3) ((x62.1, x62.2)) ?_ ?_ (Le.trans (le_pick [1, 1, 1, 1, 3, 0, 3, 3, 2] rfl) (le_dropeq 5 (by rfl) ⟨rfl, rfl, rfl, rfl, trivial⟩))
                · exact ⟨by omega, by omega, hg3⟩
                · omega
              · intro h65
                exfalso; simp only [List.length_map] at ok61; rw [tell_ok hg2 (by omega) (by omega)] at h65; cases h65
          · refine eff_s rfl rfl rfl (opE_alloc rfl Try.zeroValue74 rfl) (fun a _ => (by first | exact invx_mk rfl | exact invx_mk (List.append_assoc _ _ _) | exact invx_all)) ?_
            intro b11 _
            refine bt_e1 ?_
            refine eff_s rfl rfl rfl (opE_call [1] rfl Try.call86 rfl (curPick_own _ _ hcode _ _ (by omega) (by omega)) (evl_cons (ev_tmp rfl) (evl_cons ev_ci evl_nil)) rfl) (fun a _ => (by first | exact invx_mk rfl | exact invx_mk (List.append_assoc _ _ _) | exact invx_all)) ?_
            intro x56 ok56
            refine bt_e1 ?_
            refine eff_s rfl rfl rfl (opE_call [8] rfl Try.call86 rfl (curPick_own _ _ hcode _ _ (by simp only [List.length_map]; omega) (by omega)) (evl_cons (ev_tmp rfl) (evl_cons (ev_tmp rfl) evl_nil)) rfl) (fun a _ => (by first | exact invx_mk rfl | exact invx_mk (List.append_assoc _ _ _) | exact invx_all)) ?_
            intro x61 ok61
            refine bt_e1 ?_
            refine eff_s rfl rfl rfl (opE_call [] rfl Try.call51 rfl (tellGroupS_ownF a2 x56.2 x61.2 (by omega)) (evl_cons (ev_tmp rfl) (evl_cons (ev_tmp rfl) (evl_cons (ev_tmp rfl) evl_nil))) rfl) (fun a _ => (by first | exact invx_mk rfl | exact invx_mk (List.append_assoc _ _ _) | exact invx_all)) ?_
            intro x62 ok62
            refine bt_plain rfl rfl rfl (fun ext => w_move rfl (ev_tmp rfl)) ?_
            refine bt_plain rfl rfl rfl (fun ext => w_extract rfl (ev_tmp rfl) rfl) ?_
            refine bt_plain rfl rfl rfl (fun ext => w_extract rfl (ev_tmp rfl) rfl) ?_
            refine bt_e1 ?_
            refine eff_s0 rfl rfl rfl (opE_storeB0 7 rfl rfl (ev_tmp rfl) (ev_tmp rfl) (as_agg _) rfl Try.sizeOf74 rfl) (fun a _ => (by first | exact invx_mk rfl | exact invx_mk (List.append_assoc _ _ _) | exact invx_all)) ?_
            intro _ _
            refine bt_nil ?_
            refine sq_plain rfl rfl rfl (w_assign rfl (ev_tmp rfl)) ?_
            refine sq_nil ?_
            refine awp_seq ?_
            refine awp_own (by first | (simp only [TAtlas.owF, TAtlas.ocF, TAtlas.ow, TAtlas.ocs, TPlaces.ow, TPlaces.ocs, pick, List.eraseIdx_cons_zero, List.eraseIdx_cons_succ, List.set_cons_zero, List.set_cons_succ, List.cons_append, List.nil_append, List.getElem?_cons_zero, List.getElem?_cons_succ, List.append_nil, List.take_succ_cons, List.take_zero, List.drop_succ_cons, List.drop_zero]; exact rfl) | exact rfl) ?_
            refine awp_region ?_
            refine sq_plain rfl rfl rfl (w_move rfl (ev_tmp rfl)) ?_
            refine sq_nil ?_
            refine awp_cond (ev_tmp rfl) ?_ ?_
            · intro h65
              obtain ⟨a3, ha3⟩ : ∃ a3, (tellGroupS a2 x56.2 x61.2).1 = a3 := ⟨_, rfl⟩
              have hg3 : goodAtlas a3 = true := by (rw [← ha3, ← tellGroup_eq]; exact tellGroup_good (by rw [tellGroup_eq]; exact h65))
              rw [ha3]
              obtain ⟨cc3, hc3⟩ : ∃ cc3, x61.1 = cc3 := ⟨_, rfl⟩
              rw [hc3] at ok61
              rw [hc3]
              refine awp_own (by first | (simp only [TAtlas.owF, TAtlas.ocF, TAtlas.ow, TAtlas.ocs, TPlaces.ow, TPlaces.ocs, pick, List.eraseIdx_cons_zero, List.eraseIdx_cons_succ, List.set_cons_zero, List.set_cons_succ, List.cons_append, List.nil_append, List.getElem?_cons_zero, List.getElem?_cons_succ, List.append_nil, List.take_succ_cons, List.take_zero, List.drop_succ_cons, List.drop_zero]; exact rfl) | exact rfl) ?_
              refine awp_region ?_
              refine sq_plain rfl rfl rfl (w_loadA 7 rfl (ev_tmp rfl) rfl Try.isAgg74 Try.sizeOf74 rfl) ?_
              refine sq_storeB0 0 rfl rfl rfl (ev_tmp rfl) (ev_tmp rfl) (as_agg _) rfl Try.sizeOf74 rfl ?_
              refine sq_nil ?_
              refine awp_own (by first | (simp only [TAtlas.owF, TAtlas.ocF, TAtlas.ow, TAtlas.ocs, TPlaces.ow, TPlaces.ocs, pick, List.eraseIdx_cons_zero, List.eraseIdx_cons_succ, List.set_cons_zero, List.set_cons_succ, List.cons_append, List.nil_append, List.getElem?_cons_zero, List.getElem?_cons_succ, List.append_nil, List.take_succ_cons, List.take_zero, List.drop_succ_cons, List.drop_zero]; exact rfl) | exact rfl) ?_
              refine awp_region ?_
              refine sq_plain rfl rfl rfl (w_move rfl (ev_tmp rfl)) ?_
              refine sq_plain rfl rfl rfl (w_subi rfl (ev_tmp rfl) ev_ci (by first | omega | ((try simp only [List.length_map, List.length_take, List.length_cons, List.length_nil, chunks_len, szR] at *); omega) | (have hc2 := hc; simp only [Bool.and_eq_true, Bool.or_eq_true, Bool.or_eq_false_iff, Bool.and_eq_false_iff, Bool.not_eq_true', Bool.not_eq_false', decide_eq_true_eq, decide_eq_false_iff_not, beq_iff_eq, bne_iff_ne, List.length_map, List.length_take] at hc2; omega))) ?_
              refine sq_plain rfl rfl rfl (w_assign rfl (ev_tmp rfl)) ?_
              refine sq_nil ?_
              refine round_end4 n cc a y (n - 1) (cc3) (a3) ((x62.1, x62.2)) ?_ ?_ (Le.trans (le_pick [1, 1, 1, 1, 3, 0, 3, 3, 2] rfl) (le_dropeq 5 (by rfl) ⟨rfl, rfl, rfl, rfl, trivial⟩))
              · exact ⟨by omega, by omega, hg3⟩
              · omega
            · intro h65
              exfalso; simp only [List.length_map] at ok61; rw [tell_ok hg2 (by omega) (by omega)] at h65; cases h65
        · intro h52
          obtain ⟨a3, ha3⟩ : ∃ a3, a2 = a3 := ⟨_, rfl⟩
          have hg3 : goodAtlas a3 = true := ha3 ▸ hg2
          rw [ha3]
          obtain ⟨cc3, hc3⟩ : ∃ cc3, x52.1 = cc3 := ⟨_, rfl⟩
          rw [hc3] at ok52
          rw [hc3]
          refine awp_skip ?_
          refine awp_own (by first | (simp only [TAtlas.owF, TAtlas.ocF, TAtlas.ow, TAtlas.ocs, TPlaces.ow, TPlaces.ocs, pick, List.eraseIdx_cons_zero, List.eraseIdx_cons_succ, List.set_cons_zero, List.set_cons_succ, List.cons_append, List.nil_append, List.getElem?_cons_zero, List.getElem?_cons_succ, List.append_nil, List.take_succ_cons, List.take_zero, List.drop_succ_cons, List.drop_zero]; exact rfl) | exact rfl) ?_
          refine awp_region ?_
          refine sq_plain rfl rfl rfl (w_move rfl (ev_tmp rfl)) ?_
          refine sq_plain rfl rfl rfl (w_subi rfl (ev_tmp rfl) ev_ci (by first | omega | ((try simp only [List.length_map, List.length_take, List.length_cons, List.length_nil, chunks_len, szR] at *); omega) | (have hc2 := hc; simp only [Bool.and_eq_true, Bool.or_eq_true, Bool.or_eq_false_iff, Bool.and_eq_false_iff, Bool.not_eq_true', Bool.not_eq_false', decide_eq_true_eq, decide_eq_false_iff_not, beq_iff_eq, bne_iff_ne, List.length_map, List.length_take] at hc2; omega))) ?_
          refine sq_plain rfl rfl rfl (w_assign rfl (ev_tmp rfl)) ?_
          refine sq_nil ?_
          refine round_end4 n cc a y (n - 1) (cc3) (a3) ((x46.1, x46.2.1)) ?_ ?_ (Le.trans (le_pick [1, 3, 4, 4, 3, 1, 1, 0] rfl) (le_dropeq 4 (by rfl) ⟨rfl, rfl, rfl, rfl, trivial⟩))
          · exact ⟨by omega, by omega, hg3⟩
          · omega
      · intro h49
        obtain ⟨a2, ha2⟩ : ∃ a2, a = a2 := ⟨_, rfl⟩
        have hg2 : goodAtlas a2 = true := ha2 ▸ hinv.2.2
        rw [ha2]
        refine awp_skip ?_
        refine awp_seq ?_
        refine awp_own (by first | (simp only [TAtlas.owF, TAtlas.ocF, TAtlas.ow, TAtlas.ocs, TPlaces.ow, TPlaces.ocs, pick, List.eraseIdx_cons_zero, List.eraseIdx_cons_succ, List.set_cons_zero, List.set_cons_succ, List.cons_append, List.nil_append, List.getElem?_cons_zero, List.getElem?_cons_succ, List.append_nil, List.take_succ_cons, List.take_zero, List.drop_succ_cons, List.drop_zero]; exact rfl) | exact rfl) ?_
        refine awp_region ?_
        refine sq_plain rfl rfl rfl (w_move rfl (ev_tmp rfl)) ?_
        refine sq_callG [4] rfl rfl rfl rfl Try.call109 rfl (curOne_own _ _ hcode _ _ (by omega) (by omega)) (evl_cons (ev_tmp rfl) (evl_cons ev_ci evl_nil)) rfl ?_
        intro x52 ok52
        refine sq_nil ?_
        refine awp_cond (ev_tmp rfl) ?_ ?_
        · intro h52
          obtain ⟨e1, e2, e3, e4⟩ := atlas_facts hg2
          have hs2 := atlas_size hg2
          refine awp_seq ?_
          refine AWP.le (le_sealO [6, 6] 5 (.box b4 74 a2.cs) rfl rfl ⟨rfl, rfl, (lc_cons (lt_arr (List.mem_of_getElem? (i := 0) rfl) le_refl_e) (lc_cons (lt_arr (List.mem_of_getElem? (i := 1) rfl) le_refl_e) lc_nil))⟩ (gin_cons 0 rfl rfl gin_nil)) ?_
          refine awp_own (by first | (simp only [TAtlas.owF, TAtlas.ocF, TAtlas.ow, TAtlas.ocs, TPlaces.ow, TPlaces.ocs, pick, List.eraseIdx_cons_zero, List.eraseIdx_cons_succ, List.set_cons_zero, List.set_cons_succ, List.cons_append, List.nil_append, List.getElem?_cons_zero, List.getElem?_cons_succ, List.append_nil, List.take_succ_cons, List.take_zero, List.drop_succ_cons, List.drop_zero]; exact rfl) | exact rfl) ?_
          refine AWP.le (le_pick [5] rfl) ?_
          refine awp_region_tree _ 14 (.pure 0 (.pure 1 (.pure 3 (.pure 4 (.pure 5 (.pure 6 (.e2 2 (.e2 7 (.e2 8 (.pure 9 (.pure 10 (.pure 11 (.e1 12 (.e1 13 .nil))))) 12 (.e1 8 (.pure 9 (.pure 10 (.pure 11 (.e1 13 .nil)))))) 12 (.e1 7 (.e1 8 (.pure 9 (.pure 10 (.pure 11 (.e1 13 .nil))))))) 12 (.e1 2 (.e1 7 (.e1 8 (.pure 9 (.pure 10 (.pure 11 (.e1 13 .nil)))))))))))))) (by kernel_rfl) (by kernel_rfl) rfl (invx_take 1) ?_
          refine bt_plain rfl rfl rfl (fun ext => w_loadA 0 rfl (ev_tmp rfl) rfl Try.isAgg74 Try.sizeOf74 rfl) ?_
          refine bt_plain rfl rfl rfl (fun ext => w_move rfl (ev_tmp rfl)) ?_
          refine bt_plain rfl rfl rfl (fun ext => w_move rfl (ev_tmp rfl)) ?_
          refine bt_plain rfl rfl rfl (fun ext => w_fldBn 0 rfl Try.underlying74 rfl Try.sizeOf72 (ev_tmp rfl) rfl) ?_
          refine bt_plain rfl rfl rfl (fun ext => w_loadB1 0 rfl (ev_tmp rfl) rfl Try.isAgg72 rfl) ?_
          refine bt_plain rfl rfl rfl (fun ext => w_llen rfl Try.underlying72 (ev_tmp rfl)) ?_
          refine bt_e2 ?_ ?_
          · refine eff_s rfl rfl rfl (opE_call [1] rfl Try.call86 rfl (curPick_own _ _ hcode _ _ (by omega) (by omega)) (evl_cons (ev_tmp rfl) (evl_cons ev_ci evl_nil)) rfl) (fun a _ => (by first | exact invx_mk rfl | exact invx_mk (List.append_assoc _ _ _) | exact invx_all)) ?_
            intro x56 ok56
            refine bt_e2 ?_ ?_
            · refine eff_s rfl rfl rfl (opE_call [7] rfl Try.call86 rfl (curPick_own _ _ hcode _ _ (by simp only [List.length_map]; omega) (by omega)) (evl_cons (ev_tmp rfl) (evl_cons (ev_tmp rfl) evl_nil)) rfl) (fun a _ => (by first | exact invx_mk rfl | exact invx_mk (List.append_assoc _ _ _) | exact invx_all)) ?_
              intro x61 ok61
              refine bt_e2 ?_ ?_
              · refine eff_s rfl rfl rfl (opE_call [] rfl Try.call51 rfl (tellGroupS_ownF a2 x56.2 x61.2 (by omega)) (evl_cons (ev_tmp rfl) (evl_cons (ev_tmp rfl) (evl_cons (ev_tmp rfl) evl_nil))) rfl) (fun a _ => (by first | exact invx_mk rfl | exact invx_mk (List.append_assoc _ _ _) | exact invx_all)) ?_
                intro x62 ok62
                refine bt_plain rfl rfl rfl (fun ext => w_move rfl (ev_tmp rfl)) ?_
                refine bt_plain rfl rfl rfl (fun ext => w_extract rfl (ev_tmp rfl) rfl) ?_
                refine bt_plain rfl rfl rfl (fun ext => w_extract rfl (ev_tmp rfl) rfl) ?_
                refine bt_e1 ?_
                refine eff_s rfl rfl rfl (opE_alloc rfl Try.zeroValue74 rfl) (fun a _ => (by first | exact invx_mk rfl | exact invx_mk (List.append_assoc _ _ _) | exact invx_all)) ?_
                intro b11 _
                refine bt_e1 ?_
                refine eff_s0 rfl rfl rfl (opE_storeB0 10 rfl rfl (ev_tmp rfl) (ev_tmp rfl) (as_agg _) rfl Try.sizeOf74 rfl) (fun a _ => (by first | exact invx_mk rfl | exact invx_mk (List.append_assoc _ _ _) | exact invx_all)) ?_
                intro _ _
                refine bt_nil ?_
                refine sq_plain rfl rfl rfl (w_assign rfl (ev_tmp rfl)) ?_
                refine sq_nil ?_
                refine awp_seq ?_
                refine awp_own (by first | (simp only [TAtlas.owF, TAtlas.ocF, TAtlas.ow, TAtlas.ocs, TPlaces.ow, TPlaces.ocs, pick, List.eraseIdx_cons_zero, List.eraseIdx_cons_succ, List.set_cons_zero, List.set_cons_succ, List.cons_append, List.nil_append, List.getElem?_cons_zero, List.getElem?_cons_succ, List.append_nil, List.take_succ_cons, List.take_zero, List.drop_succ_cons, List.drop_zero]; exact rfl) | exact rfl) ?_
                refine awp_region ?_
                refine sq_plain rfl rfl rfl (w_move rfl (ev_tmp rfl)) ?_
                refine sq_nil ?_
                refine awp_cond (ev_tmp rfl) ?_ ?_
                · intro h65
                  obtain ⟨a3, ha3⟩ : ∃ a3, (tellGroupS a2 x56.2 x61.2).1 = a3 := ⟨_, rfl⟩
                  have hg3 : goodAtlas a3 = true := by (rw [← ha3, ← tellGroup_eq]; exact tellGroup_good (by rw [tellGroup_eq]; exact h65))
                  rw [ha3]
                  obtain ⟨cc3, hc3⟩ : ∃ cc3, x61.1 = cc3 := ⟨_, rfl⟩
                  rw [hc3] at ok61
                  rw [hc3]
                  refine awp_own (by first | (simp only [TAtlas.owF, TAtlas.ocF, TAtlas.ow, TAtlas.ocs, TPlaces.ow, TPlaces.ocs, pick, List.eraseIdx_cons_zero, List.eraseIdx_cons_succ, List.set_cons_zero, List.set_cons_succ, List.cons_append, List.nil_append, List.getElem?_cons_zero, List.getElem?_cons_succ, List.append_nil, List.take_succ_cons, List.take_zero, List.drop_succ_cons, List.drop_zero]; exact rfl) | exact rfl) ?_
                  refine awp_region ?_
                  refine sq_plain rfl rfl rfl (w_loadA 10 rfl (ev_tmp rfl) rfl Try.isAgg74 Try.sizeOf74 rfl) ?_
                  refine sq_storeB0 0 rfl rfl rfl (ev_tmp rfl) (ev_tmp rfl) (as_agg _) rfl Try.sizeOf74 rfl ?_
                  refine sq_nil ?_
                  refine awp_own (by first | (simp only [TAtlas.owF, TAtlas.ocF, TAtlas.ow, TAtlas.ocs, TPlaces.ow, TPlaces.ocs, pick, List.eraseIdx_cons_zero, List.eraseIdx_cons_succ, List.set_cons_zero, List.set_cons_succ, List.cons_append, List.nil_append, List.getElem?_cons_zero, List.getElem?_cons_succ, List.append_nil, List.take_succ_cons, List.take_zero, List.drop_succ_cons, List.drop_zero]; exact rfl) | exact rfl) ?_
                  refine awp_region ?_
                  refine sq_plain rfl rfl rfl (w_move rfl (ev_tmp rfl)) ?_
                  refine sq_plain rfl rfl rfl (w_subi rfl (ev_tmp rfl) ev_ci (by first | omega | ((try simp only [List.length_map, List.length_take, List.length_cons, List.length_nil, chunks_len, szR] at *); omega) | (have hc2 := hc; simp only [Bool.and_eq_true, Bool.or_eq_true, Bool.or_eq_false_iff, Bool.and_eq_false_iff, Bool.not_eq_true', Bool.not_eq_false', decide_eq_true_eq, decide_eq_false_iff_not, beq_iff_eq, bne_iff_ne, List.length_map, List.length_take] at hc2; omega))) ?_
                  refine sq_plain rfl rfl rfl (w_assign rfl (ev_tmp rfl)) ?_
                  refine sq_nil ?_
                  refine round_end4 n cc a y (n - 1) (cc3) (a3) ((x62.1, x62.2)) ?_ ?_ (Le.trans (le_pick [1, 1, 1, 1, 6, 0, 3, 3, 2] rfl) (le_dropeq 5 (by rfl) ⟨rfl, rfl, rfl, rfl, trivial⟩))
                  · exact ⟨by omega, by omega, hg3⟩
                  · omega
                · intro h65
                  exfalso; simp only [List.length_map] at ok61; rw [tell_ok hg2 (by omega) (by omega)] at h65; cases h65
              · refine eff_s rfl rfl rfl (opE_alloc rfl Try.zeroValue74 rfl) (fun a _ => (by first | exact invx_mk rfl | exact invx_mk (List.append_assoc _ _ _) | exact invx_all)) ?_
                intro b11 _
                refine bt_e1 ?_
                refine eff_s rfl rfl rfl (opE_call [] rfl Try.call51 rfl (tellGroupS_ownF a2 x56.2 x61.2 (by omega)) (evl_cons (ev_tmp rfl) (evl_cons (ev_tmp rfl) (evl_cons (ev_tmp rfl) evl_nil))) rfl) (fun a _ => (by first | exact invx_mk rfl | exact invx_mk (List.append_assoc _ _ _) | exact invx_all)) ?_
                intro x62 ok62
                refine bt_plain rfl rfl rfl (fun ext => w_move rfl (ev_tmp rfl)) ?_
                refine bt_plain rfl rfl rfl (fun ext => w_extract rfl (ev_tmp rfl) rfl) ?_
                refine bt_plain rfl rfl rfl (fun ext => w_extract rfl (ev_tmp rfl) rfl) ?_
                refine bt_e1 ?_
                refine eff_s0 rfl rfl rfl (opE_storeB0 8 rfl rfl (ev_tmp rfl) (ev_tmp rfl) (as_agg _) rfl Try.sizeOf74 rfl) (fun a _ => (by first | exact invx_mk rfl | exact invx_mk (List.append_assoc _ _ _) | exact invx_all)) ?_
                intro _ _
                refine bt_nil ?_
                refine sq_plain rfl rfl rfl (w_assign rfl (ev_tmp rfl)) ?_
                refine sq_nil ?_
                refine awp_seq ?_
                refine awp_own (by first | (simp only [TAtlas.owF, TAtlas.ocF, TAtlas.ow, TAtlas.ocs, TPlaces.ow, TPlaces.ocs, pick, List.eraseIdx_cons_zero, List.eraseIdx_cons_succ, List.set_cons_zero, List.set_cons_succ, List.cons_append, List.nil_append, List.getElem?_cons_zero, List.getElem?_cons_succ, List.append_nil, List.take_succ_cons, List.take_zero, List.drop_succ_cons, List.drop_zero]; exact rfl) | exact rfl) ?_
                refine awp_region ?_
                refine sq_plain rfl rfl rfl (w_move rfl (ev_tmp rfl)) ?_
                refine sq_nil ?_
                refine awp_cond (ev_tmp rfl) ?_ ?_
                · intro h65
                  obtain ⟨a3, ha3⟩ : ∃ a3, (tellGroupS a2 x56.2 x61.2).1 = a3 := ⟨_, rfl⟩
                  have hg3 : goodAtlas a3 = true := by (rw [← ha3, ← tellGroup_eq]; exact tellGroup_good (by rw [tellGroup_eq]; exact h65))
                  rw [ha3]
                  obtain ⟨cc3, hc3⟩ : ∃ cc3, x61.1 = cc3 := ⟨_, rfl⟩
                  rw [hc3] at ok61
                  rw [hc3]
                  refine awp_own (by first | (simp only [TAtlas.owF, TAtlas.ocF, TAtlas.ow, TAtlas.ocs, TPlaces.ow, TPlaces.ocs, pick, List.eraseIdx_cons_zero, List.eraseIdx_cons_succ, List.set_cons_zero, List.set_cons_succ, List.cons_append, List.nil_append, List.getElem?_cons_zero, List.getElem?_cons_succ, List.append_nil, List.take_succ_cons, List.take_zero, List.drop_succ_cons, List.drop_zero]; exact rfl) | exact rfl) ?_
                  refine awp_region ?_
                  refine sq_plain rfl rfl rfl (w_loadA 8 rfl (ev_tmp rfl) rfl Try.isAgg74 Try.sizeOf74 rfl) ?_
                  refine sq_storeB0 0 rfl rfl rfl (ev_tmp rfl) (ev_tmp rfl) (as_agg _) rfl Try.sizeOf74 rfl ?_
                  refine sq_nil ?_
                  refine awp_own (by first | (simp only [TAtlas.owF, TAtlas.ocF, TAtlas.ow, TAtlas.ocs, TPlaces.ow, TPlaces.ocs, pick, List.eraseIdx_cons_zero, List.eraseIdx_cons_succ, List.set_cons_zero, List.set_cons_succ, List.cons_append, List.nil_append, List.getElem?_cons_zero, List.getElem?_cons_succ, List.append_nil, List.take_succ_cons, List.take_zero, List.drop_succ_cons, List.drop_zero]; exact rfl) | exact rfl) ?_
                  refine awp_region ?_
                  refine sq_plain rfl rfl rfl (w_move rfl (ev_tmp rfl)) ?_
                  refine sq_plain rfl rfl rfl (w_subi rfl (ev_tmp rfl) ev_ci (by first | omega | ((try simp only [List.length_map, List.length_take, List.length_cons, List.length_nil, chunks_len, szR] at *); omega) | (have hc2 := hc; simp only [Bool.and_eq_true, Bool.or_eq_true, Bool.or_eq_false_iff, Bool.and_eq_false_iff, Bool.not_eq_true', Bool.not_eq_false', decide_eq_true_eq, decide_eq_false_iff_not, beq_iff_eq, bne_iff_ne, List.length_map, List.length_take] at hc2; omega))) ?_
                  refine sq_plain rfl rfl rfl (w_assign rfl (ev_tmp rfl)) ?_
                  refine sq_nil ?_
                  refine round_end4 n cc a y (n - 1) (cc3) (a3) ((x62.1, x62.2)) ?_ ?_ (Le.trans (le_pick [1, 1, 1, 1, 4, 0, 3, 3, 2] rfl) (le_dropeq 5 (by rfl) ⟨rfl, rfl, rfl, rfl, trivial⟩))
                  · exact ⟨by omega, by omega, hg3⟩
                  · omega
                · intro h65
                  exfalso; simp only [List.length_map] at ok61; rw [tell_ok hg2 (by omega) (by omega)] at h65; cases h65
            · refine eff_s rfl rfl rfl (opE_alloc rfl Try.zeroValue74 rfl) (fun a _ => (by first | exact invx_mk rfl | exact invx_mk (List.append_assoc _ _ _) | exact invx_all)) ?_
              intro b11 _
              refine bt_e1 ?_
              refine eff_s rfl rfl rfl (opE_call [7] rfl Try.call86 rfl (curPick_own _ _ hcode _ _ (by simp only [List.length_map]; omega) (by omega)) (evl_cons (ev_tmp rfl) (evl_cons (ev_tmp rfl) evl_nil)) rfl) (fun a _ => (by first | exact invx_mk rfl | exact invx_mk (List.append_assoc _ _ _) | exact invx_all)) ?_
              intro x61 ok61
              refine bt_e1 ?_
              refine eff_s rfl rfl rfl (opE_call [] rfl Try.call51 rfl (tellGroupS_ownF a2 x56.2 x61.2 (by omega)) (evl_cons (ev_tmp rfl) (evl_cons (ev_tmp rfl) (evl_cons (ev_tmp rfl) evl_nil))) rfl) (fun a _ => (by first | exact invx_mk rfl | exact invx_mk (List.append_assoc _ _ _) | exact invx_all)) ?_
              intro x62 ok62
              refine bt_plain rfl rfl rfl (fun ext => w_move rfl (ev_tmp rfl)) ?_
              refine bt_plain rfl rfl rfl (fun ext => w_extract rfl (ev_tmp rfl) rfl) ?_
              refine bt_plain rfl rfl rfl (fun ext => w_extract rfl (ev_tmp rfl) rfl) ?_
              refine bt_e1 ?_
              refine eff_s0 rfl rfl rfl (opE_storeB0 7 rfl rfl (ev_tmp rfl) (ev_tmp rfl) (as_agg _) rfl Try.sizeOf74 rfl) (fun a _ => (by first | exact invx_mk rfl | exact invx_mk (List.append_assoc _ _ _) | exact invx_all)) ?_
              intro _ _
              refine bt_nil ?_
              refine sq_plain rfl rfl rfl (w_assign rfl (ev_tmp rfl)) ?_
              refine sq_nil ?_
              refine awp_seq ?_
              refine awp_own (by first | (simp only [TAtlas.owF, TAtlas.ocF, TAtlas.ow, TAtlas.ocs, TPlaces.ow, TPlaces.ocs, pick, List.eraseIdx_cons_zero, List.eraseIdx_cons_succ, List.set_cons_zero, List.set_cons_succ, List.cons_append, List.nil_append, List.getElem?_cons_zero, List.getElem?_cons_succ, List.append_nil, List.take_succ_cons, List.take_zero, List.drop_succ_cons, List.drop_zero]; exact rfl) | exact rfl) ?_
              refine awp_region ?_
              refine sq_plain rfl rfl rfl (w_move rfl (ev_tmp rfl)) ?_
              refine sq_nil ?_
              refine awp_cond (ev_tmp rfl) ?_ ?_
              · intro h65
                obtain ⟨a3, ha3⟩ : ∃ a3, (tellGroupS a2 x56.2 x61.2).1 = a3 := ⟨_, rfl⟩
                have hg3 : goodAtlas a3 = true := by (rw [← ha3, ← tellGroup_eq]; exact tellGroup_good (by rw [tellGroup_eq]; exact h65))
                rw [ha3]
                obtain ⟨cc3, hc3⟩ : ∃ cc3, x61.1 = cc3 := ⟨_, rfl⟩
                rw [hc3] at ok61
                rw [hc3]
                refine awp_own (by first | (simp only [TAtlas.owF, TAtlas.ocF, TAtlas.ow, TAtlas.ocs, TPlaces.ow, TPlaces.ocs, pick, List.eraseIdx_cons_zero, List.eraseIdx_cons_succ, List.set_cons_zero, List.set_cons_succ, List.cons_append, List.nil_append, List.getElem?_cons_zero, List.getElem?_cons_succ, List.append_nil, List.take_succ_cons, List.take_zero, List.drop_succ_cons, List.drop_zero]; exact rfl) | exact rfl) ?_
                refine awp_region ?_
                refine sq_plain rfl rfl rfl (w_loadA 7 rfl (ev_tmp rfl) rfl Try.isAgg74 Try.sizeOf74 rfl) ?_
                refine sq_storeB0 0 rfl rfl rfl (ev_tmp rfl) (ev_tmp rfl) (as_agg _) rfl Try.sizeOf74 rfl ?_
                refine sq_nil ?_
                refine awp_own (by first | (simp only [TAtlas.owF, TAtlas.ocF, TAtlas.ow, TAtlas.ocs, TPlaces.ow, TPlaces.ocs, pick, List.eraseIdx_cons_zero, List.eraseIdx_cons_succ, List.set_cons_zero, List.set_cons_succ, List.cons_append, List.nil_append, List.getElem?_cons_zero, List.getElem?_cons_succ, List.append_nil, List.take_succ_cons, List.take_zero, List.drop_succ_cons, List.drop_zero]; exact rfl) | exact rfl) ?_
                refine awp_region ?_
                refine sq_plain rfl rfl rfl (w_move rfl (ev_tmp rfl)) ?_
                refine sq_plain rfl rfl rfl (w_subi rfl (ev_tmp rfl) ev_ci (by first | omega | ((try simp only [List.length_map, List.length_take, List.length_cons, List.length_nil, chunks_len, szR] at *); omega) | (have hc2 := hc; simp only [Bool.and_eq_true, Bool.or_eq_true, Bool.or_eq_false_iff, Bool.and_eq_false_iff, Bool.not_eq_true', Bool.not_eq_false', decide_eq_true_eq, decide_eq_false_iff_not, beq_iff_eq, bne_iff_ne, List.length_map, List.length_take] at hc2; omega))) ?_
                refine sq_plain rfl rfl rfl (w_assign rfl (ev_tmp rfl)) ?_
                refine sq_nil ?_
                refine round_end4 n cc a y (n - 1) (cc3) (a3) ((x62.1, x62.2)) ?_ ?_ (Le.trans (le_pick [1, 1, 1, 1, 3, 0, 3, 3, 2] rfl) (le_dropeq 5 (by rfl) ⟨rfl, rfl, rfl, rfl, trivial⟩))
                · exact ⟨by omega, by omega, hg3⟩
                · omega
              · intro h65
                exfalso; simp only [List.length_map] at ok61; rw [tell_ok hg2 (by omega) (by omega)] at h65; cases h65
          · refine eff_s rfl rfl rfl (opE_alloc rfl Try.zeroValue74 rfl) (fun a _ => (by first | exact invx_mk rfl | exact invx_mk (List.append_assoc _ _ _) | exact invx_all)) ?_
            intro b11 _
            refine bt_e1 ?_
            refine eff_s rfl rfl rfl (opE_call [1] rfl Try.call86 rfl (curPick_own _ _ hcode _ _ (by omega) (by omega)) (evl_cons (ev_tmp rfl) (evl_cons ev_ci evl_nil)) rfl) (fun a _ => (by first | exact invx_mk rfl | exact invx_mk (List.append_assoc _ _ _) | exact invx_all)) ?_
            intro x56 ok56
            refine bt_e1 ?_
            refine eff_s rfl rfl rfl (opE_call [8] rfl Try.call86 rfl (curPick_own _ _ hcode _ _ (by simp only [List.length_map]; omega) (by omega)) (evl_cons (ev_tmp rfl) (evl_cons (ev_tmp rfl) evl_nil)) rfl) (fun a _ => (by first | exact invx_mk rfl | exact invx_mk (List.append_assoc _ _ _) | exact invx_all)) ?_
            intro x61 ok61
            refine bt_e1 ?_
            refine eff_s rfl rfl rfl (opE_call [] rfl Try.call51 rfl (tellGroupS_ownF a2 x56.2 x61.2 (by omega)) (evl_cons (ev_tmp rfl) (evl_cons (ev_tmp rfl) (evl_cons (ev_tmp rfl) evl_nil))) rfl) (fun a _ => (by first | exact invx_mk rfl | exact invx_mk (List.append_assoc _ _ _) | exact invx_all)) ?_
            intro x62 ok62
            refine bt_plain rfl rfl rfl (fun ext => w_move rfl (ev_tmp rfl)) ?_
            refine bt_plain rfl rfl rfl (fun ext => w_extract rfl (ev_tmp rfl) rfl) ?_
            refine bt_plain rfl rfl rfl (fun ext => w_extract rfl (ev_tmp rfl) rfl) ?_
            refine bt_e1 ?_
            refine eff_s0 rfl rfl rfl (opE_storeB0 7 rfl rfl (ev_tmp rfl) (ev_tmp rfl) (as_agg _) rfl Try.sizeOf74 rfl) (fun a _ => (by first | exact invx_mk rfl | exact invx_mk (List.append_assoc _ _ _) | exact invx_all)) ?_
            intro _ _
            refine bt_nil ?_
            refine sq_plain rfl rfl rfl (w_assign rfl (ev_tmp rfl)) ?_
            refine sq_nil ?_
            refine awp_seq ?_
            refine awp_own (by first | (simp only [TAtlas.owF, TAtlas.ocF, TAtlas.ow, TAtlas.ocs, TPlaces.ow, TPlaces.ocs, pick, List.eraseIdx_cons_zero, List.eraseIdx_cons_succ, List.set_cons_zero, List.set_cons_succ, List.cons_append, List.nil_append, List.getElem?_cons_zero, List.getElem?_cons_succ, List.append_nil, List.take_succ_cons, List.take_zero, List.drop_succ_cons, List.drop_zero]; exact rfl) | exact rfl) ?_
            refine awp_region ?_
            refine sq_plain rfl rfl rfl (w_move rfl (ev_tmp rfl)) ?_
            refine sq_nil ?_
            refine awp_cond (ev_tmp rfl) ?_ ?_
            · intro h65
              obtain ⟨a3, ha3⟩ : ∃ a3, (tellGroupS a2 x56.2 x61.2).1 = a3 := ⟨_, rfl⟩
              have hg3 : goodAtlas a3 = true := by (rw [← ha3, ← tellGroup_eq]; exact tellGroup_good (by rw [tellGroup_eq]; exact h65))
              rw [ha3]
              obtain ⟨cc3, hc3⟩ : ∃ cc3, x61.1 = cc3 := ⟨_, rfl⟩
              rw [hc3] at ok61
              rw [hc3]
              refine awp_own (by first | (simp only [TAtlas.owF, TAtlas.ocF, TAtlas.ow, TAtlas.ocs, TPlaces.ow, TPlaces.ocs, pick, List.eraseIdx_cons_zero, List.eraseIdx_cons_succ, List.set_cons_zero, List.set_cons_succ, List.cons_append, List.nil_append, List.getElem?_cons_zero, List.getElem?_cons_succ, List.append_nil, List.take_succ_cons, List.take_zero, List.drop_succ_cons, List.drop_zero]; exact rfl) | exact rfl) ?_
              refine awp_region ?_
              refine sq_plain rfl rfl rfl (w_loadA 7 rfl (ev_tmp rfl) rfl Try.isAgg74 Try.sizeOf74 rfl) ?_
              refine sq_storeB0 0 rfl rfl rfl (ev_tmp rfl) (ev_tmp rfl) (as_agg _) rfl Try.sizeOf74 rfl ?_
              refine sq_nil ?_
              refine awp_own (by first | (simp only [TAtlas.owF, TAtlas.ocF, TAtlas.ow, TAtlas.ocs, TPlaces.ow, TPlaces.ocs, pick, List.eraseIdx_cons_zero, List.eraseIdx_cons_succ, List.set_cons_zero, List.set_cons_succ, List.cons_append, List.nil_append, List.getElem?_cons_zero, List.getElem?_cons_succ, List.append_nil, List.take_succ_cons, List.take_zero, List.drop_succ_cons, List.drop_zero]; exact rfl) | exact rfl) ?_
              refine awp_region ?_
              refine sq_plain rfl rfl rfl (w_move rfl (ev_tmp rfl)) ?_
              refine sq_plain rfl rfl rfl (w_subi rfl (ev_tmp rfl) ev_ci (by first | omega | ((try simp only [List.length_map, List.length_take, List.length_cons, List.length_nil, chunks_len, szR] at *); omega) | (have hc2 := hc; simp only [Bool.and_eq_true, Bool.or_eq_true, Bool.or_eq_false_iff, Bool.and_eq_false_iff, Bool.not_eq_true', Bool.not_eq_false', decide_eq_true_eq, decide_eq_false_iff_not, beq_iff_eq, bne_iff_ne, List.length_map, List.length_take] at hc2; omega))) ?_
              refine sq_plain rfl rfl rfl (w_assign rfl (ev_tmp rfl)) ?_
              refine sq_nil ?_
              refine round_end4 n cc a y (n - 1) (cc3) (a3) ((x62.1, x62.2)) ?_ ?_ (Le.trans (le_pick [1, 1, 1, 1, 3, 0, 3, 3, 2] rfl) (le_dropeq 5 (by rfl) ⟨rfl, rfl, rfl, rfl, trivial⟩))
              · exact ⟨by omega, by omega, hg3⟩
              · omega
            · intro h65
              exfalso; simp only [List.length_map] at ok61; rw [tell_ok hg2 (by omega) (by omega)] at h65; cases h65
        · intro h52
          obtain ⟨a3, ha3⟩ : ∃ a3, a2 = a3 := ⟨_, rfl⟩
          have hg3 : goodAtlas a3 = true := ha3 ▸ hg2
          rw [ha3]
          obtain ⟨cc3, hc3⟩ : ∃ cc3, x52.1 = cc3 := ⟨_, rfl⟩
          rw [hc3] at ok52
          rw [hc3]
          refine awp_skip ?_
          refine awp_own (by first | (simp only [TAtlas.owF, TAtlas.ocF, TAtlas.ow, TAtlas.ocs, TPlaces.ow, TPlaces.ocs, pick, List.eraseIdx_cons_zero, List.eraseIdx_cons_succ, List.set_cons_zero, List.set_cons_succ, List.cons_append, List.nil_append, List.getElem?_cons_zero, List.getElem?_cons_succ, List.append_nil, List.take_succ_cons, List.take_zero, List.drop_succ_cons, List.drop_zero]; exact rfl) | exact rfl) ?_
          refine awp_region ?_
          refine sq_plain rfl rfl rfl (w_move rfl (ev_tmp rfl)) ?_
          refine sq_plain rfl rfl rfl (w_subi rfl (ev_tmp rfl) ev_ci (by first | omega | ((try simp only [List.length_map, List.length_take, List.length_cons, List.length_nil, chunks_len, szR] at *); omega) | (have hc2 := hc; simp only [Bool.and_eq_true, Bool.or_eq_true, Bool.or_eq_false_iff, Bool.and_eq_false_iff, Bool.not_eq_true', Bool.not_eq_false', decide_eq_true_eq, decide_eq_false_iff_not, beq_iff_eq, bne_iff_ne, List.length_map, List.length_take] at hc2; omega))) ?_
          refine sq_plain rfl rfl rfl (w_assign rfl (ev_tmp rfl)) ?_
          refine sq_nil ?_
          refine round_end4 n cc a y (n - 1) (cc3) (a3) ((y.1, y.2)) ?_ ?_ (Le.trans (le_pick [1, 1, 1, 1, 1, 1, 1, 0] rfl) (le_dropeq 4 (by rfl) ⟨rfl, rfl, rfl, rfl, trivial⟩))
          · exact ⟨by omega, by omega, hg3⟩
          · omega
    · intro h42
      obtain ⟨a2, ha2⟩ : ∃ a2, a = a2 := ⟨_, rfl⟩
      have hg2 : goodAtlas a2 = true := ha2 ▸ hinv.2.2
      rw [ha2]
      refine awp_skip ?_
      refine awp_seq ?_
      refine awp_own (by first | (simp only [TAtlas.owF, TAtlas.ocF, TAtlas.ow, TAtlas.ocs, TPlaces.ow, TPlaces.ocs, pick, List.eraseIdx_cons_zero, List.eraseIdx_cons_succ, List.set_cons_zero, List.set_cons_succ, List.cons_append, List.nil_append, List.getElem?_cons_zero, List.getElem?_cons_succ, List.append_nil, List.take_succ_cons, List.take_zero, List.drop_succ_cons, List.drop_zero]; exact rfl) | exact rfl) ?_
      refine awp_region ?_
      refine sq_plain rfl rfl rfl (w_move rfl (ev_tmp rfl)) ?_
      refine sq_callG [1] rfl rfl rfl rfl Try.call109 rfl (curOne_own _ _ hcode _ _ (by omega) (by omega)) (evl_cons (ev_tmp rfl) (evl_cons ev_ci evl_nil)) rfl ?_
      intro x52 ok52
      refine sq_nil ?_
      refine awp_cond (ev_tmp rfl) ?_ ?_
      · intro h52
        obtain ⟨e1, e2, e3, e4⟩ := atlas_facts hg2
        have hs2 := atlas_size hg2
        refine awp_seq ?_
        refine AWP.le (le_sealO [3, 3] 2 (.box b4 74 a2.cs) rfl rfl ⟨rfl, rfl, (lc_cons (lt_arr (List.mem_of_getElem? (i := 0) rfl) le_refl_e) (lc_cons (lt_arr (List.mem_of_getElem? (i := 1) rfl) le_refl_e) lc_nil))⟩ (gin_cons 0 rfl rfl gin_nil)) ?_
        refine awp_own (by first | (simp only [TAtlas.owF, TAtlas.ocF, TAtlas.ow, TAtlas.ocs, TPlaces.ow, TPlaces.ocs, pick, List.eraseIdx_cons_zero, List.eraseIdx_cons_succ, List.set_cons_zero, List.set_cons_succ, List.cons_append, List.nil_append, List.getElem?_cons_zero, List.getElem?_cons_succ, List.append_nil, List.take_succ_cons, List.take_zero, List.drop_succ_cons, List.drop_zero]; exact rfl) | exact rfl) ?_
        refine AWP.le (le_pick [2] rfl) ?_
        refine awp_region_tree _ 14 (.pure 0 (.pure 1 (.pure 3 (.pure 4 (.pure 5 (.pure 6 (.e2 2 (.e2 7 (.e2 8 (.pure 9 (.pure 10 (.pure 11 (.e1 12 (.e1 13 .nil))))) 12 (.e1 8 (.pure 9 (.pure 10 (.pure 11 (.e1 13 .nil)))))) 12 (.e1 7 (.e1 8 (.pure 9 (.pure 10 (.pure 11 (.e1 13 .nil))))))) 12 (.e1 2 (.e1 7 (.e1 8 (.pure 9 (.pure 10 (.pure 11 (.e1 13 .nil)))))))))))))) (by kernel_rfl) (by kernel_rfl) rfl (invx_take 1) ?_
        refine bt_plain rfl rfl rfl (fun ext => w_loadA 0 rfl (ev_tmp rfl) rfl Try.isAgg74 Try.sizeOf74 rfl) ?_
        refine bt_plain rfl rfl rfl (fun ext => w_move rfl (ev_tmp rfl)) ?_
        refine bt_plain rfl rfl rfl (fun ext => w_move rfl (ev_tmp rfl)) ?_
        refine bt_plain rfl rfl rfl (fun ext => w_fldBn 0 rfl Try.underlying74 rfl Try.sizeOf72 (ev_tmp rfl) rfl) ?_
        refine bt_plain rfl rfl rfl (fun ext => w_loadB1 0 rfl (ev_tmp rfl) rfl Try.isAgg72 rfl) ?_
        refine bt_plain rfl rfl rfl (fun ext => w_llen rfl Try.underlying72 (ev_tmp rfl)) ?_
        refine bt_e2 ?_ ?_
        · refine eff_s rfl rfl rfl (opE_call [1] rfl Try.call86 rfl (curPick_own _ _ hcode _ _ (by omega) (by omega)) (evl_cons (ev_tmp rfl) (evl_cons ev_ci evl_nil)) rfl) (fun a _ => (by first | exact invx_mk rfl | exact invx_mk (List.append_assoc _ _ _) | exact invx_all)) ?_
          intro x56 ok56
          refine bt_e2 ?_ ?_
          · refine eff_s rfl rfl rfl (opE_call [4] rfl Try.call86 rfl (curPick_own _ _ hcode _ _ (by simp only [List.length_map]; omega) (by omega)) (evl_cons (ev_tmp rfl) (evl_cons (ev_tmp rfl) evl_nil)) rfl) (fun a _ => (by first | exact invx_mk rfl | exact invx_mk (List.append_assoc _ _ _) | exact invx_all)) ?_
            intro x61 ok61
            refine bt_e2 ?_ ?_
            · refine eff_s rfl rfl rfl (opE_call [] rfl Try.call51 rfl (tellGroupS_ownF a2 x56.2 x61.2 (by omega)) (evl_cons (ev_tmp rfl) (evl_cons (ev_tmp rfl) (evl_cons (ev_tmp rfl) evl_nil))) rfl) (fun a _ => (by first | exact invx_mk rfl | exact invx_mk (List.append_assoc _ _ _) | exact invx_all)) ?_
              intro x62 ok62
              refine bt_plain rfl rfl rfl (fun ext => w_move rfl (ev_tmp rfl)) ?_
              refine bt_plain rfl rfl rfl (fun ext => w_extract rfl (ev_tmp rfl) rfl) ?_
              refine bt_plain rfl rfl rfl (fun ext => w_extract rfl (ev_tmp rfl) rfl) ?_
              refine bt_e1 ?_
              refine eff_s rfl rfl rfl (opE_alloc rfl Try.zeroValue74 rfl) (fun a _ => (by first | exact invx_mk rfl | exact invx_mk (List.append_assoc _ _ _) | exact invx_all)) ?_
              intro b11 _
              refine bt_e1 ?_
              refine eff_s0 rfl rfl rfl (opE_storeB0 7 rfl rfl (ev_tmp rfl) (ev_tmp rfl) (as_agg _) rfl Try.sizeOf74 rfl) (fun a _ => (by first | exact invx_mk rfl | exact invx_mk (List.append_assoc _ _ _) | exact invx_all)) ?_
              intro _ _
              refine bt_nil ?_
              refine sq_plain rfl rfl rfl (w_assign rfl (ev_tmp rfl)) ?_
              refine sq_nil ?_
              refine awp_seq ?_
              refine awp_own (by first | (simp only [TAtlas.owF, TAtlas.ocF, TAtlas.ow, TAtlas.ocs, TPlaces.ow, TPlaces.ocs, pick, List.eraseIdx_cons_zero, List.eraseIdx_cons_succ, List.set_cons_zero, List.set_cons_succ, List.cons_append, List.nil_append, List.getElem?_cons_zero, List.getElem?_cons_succ, List.append_nil, List.take_succ_cons, List.take_zero, List.drop_succ_cons, List.drop_zero]; exact rfl) | exact rfl) ?_
              refine awp_region ?_
              refine sq_plain rfl rfl rfl (w_move rfl (ev_tmp rfl)) ?_
              refine sq_nil ?_
              refine awp_cond (ev_tmp rfl) ?_ ?_
              · intro h65
                obtain ⟨a3, ha3⟩ : ∃ a3, (tellGroupS a2 x56.2 x61.2).1 = a3 := ⟨_, rfl⟩
                have hg3 : goodAtlas a3 = true := by (rw [← ha3, ← tellGroup_eq]; exact tellGroup_good (by rw [tellGroup_eq]; exact h65))
                rw [ha3]
                obtain ⟨cc3, hc3⟩ : ∃ cc3, x61.1 = cc3 := ⟨_, rfl⟩
                rw [hc3] at ok61
                rw [hc3]
                refine awp_own (by first | (simp only [TAtlas.owF, TAtlas.ocF, TAtlas.ow, TAtlas.ocs, TPlaces.ow, TPlaces.ocs, pick, List.eraseIdx_cons_zero, List.eraseIdx_cons_succ, List.set_cons_zero, List.set_cons_succ, List.cons_append, List.nil_append, List.getElem?_cons_zero, List.getElem?_cons_succ, List.append_nil, List.take_succ_cons, List.take_zero, List.drop_succ_cons, List.drop_zero]; exact rfl) | exact rfl) ?_
                refine awp_region ?_
                refine sq_plain rfl rfl rfl (w_loadA 7 rfl (ev_tmp rfl) rfl Try.isAgg74 Try.sizeOf74 rfl) ?_
                refine sq_storeB0 0 rfl rfl rfl (ev_tmp rfl) (ev_tmp rfl) (as_agg _) rfl Try.sizeOf74 rfl ?_
                refine sq_nil ?_
                refine awp_own (by first | (simp only [TAtlas.owF, TAtlas.ocF, TAtlas.ow, TAtlas.ocs, TPlaces.ow, TPlaces.ocs, pick, List.eraseIdx_cons_zero, List.eraseIdx_cons_succ, List.set_cons_zero, List.set_cons_succ, List.cons_append, List.nil_append, List.getElem?_cons_zero, List.getElem?_cons_succ, List.append_nil, List.take_succ_cons, List.take_zero, List.drop_succ_cons, List.drop_zero]; exact rfl) | exact rfl) ?_
                refine awp_region ?_
                refine sq_plain rfl rfl rfl (w_move rfl (ev_tmp rfl)) ?_
                refine sq_plain rfl rfl rfl (w_subi rfl (ev_tmp rfl) ev_ci (by first | omega | ((try simp only [List.length_map, List.length_take, List.length_cons, List.length_nil, chunks_len, szR] at *); omega) | (have hc2 := hc; simp only [Bool.and_eq_true, Bool.or_eq_true, Bool.or_eq_false_iff, Bool.and_eq_false_iff, Bool.not_eq_true', Bool.not_eq_false', decide_eq_true_eq, decide_eq_false_iff_not, beq_iff_eq, bne_iff_ne, List.length_map, List.length_take] at hc2; omega))) ?_
                refine sq_plain rfl rfl rfl (w_assign rfl (ev_tmp rfl)) ?_
                refine sq_nil ?_
                refine round_end4 n cc a y (n - 1) (cc3) (a3) ((x62.1, x62.2)) ?_ ?_ (Le.trans (le_pick [1, 6, 0, 3, 3, 2] rfl) (le_dropeq 2 (by rfl) ⟨rfl, rfl, rfl, rfl, trivial⟩))
                · exact ⟨by omega, by omega, hg3⟩
                · omega
              · intro h65
                exfalso; simp only [List.length_map] at ok61; rw [tell_ok hg2 (by omega) (by omega)] at h65; cases h65
            · refine eff_s rfl rfl rfl (opE_alloc rfl Try.zeroValue74 rfl) (fun a _ => (by first | exact invx_mk rfl | exact invx_mk (List.append_assoc _ _ _) | exact invx_all)) ?_
              intro b11 _
              refine bt_e1 ?_
              refine eff_s rfl rfl rfl (opE_call [] rfl Try.call51 rfl (tellGroupS_ownF a2 x56.2 x61.2 (by omega)) (evl_cons (ev_tmp rfl) (evl_cons (ev_tmp rfl) (evl_cons (ev_tmp rfl) evl_nil))) rfl) (fun a _ => (by first | exact invx_mk rfl | exact invx_mk (List.append_assoc _ _ _) | exact invx_all)) ?_
              intro x62 ok62
              refine bt_plain rfl rfl rfl (fun ext => w_move rfl (ev_tmp rfl)) ?_
              refine bt_plain rfl rfl rfl (fun ext => w_extract rfl (ev_tmp rfl) rfl) ?_
              refine bt_plain rfl rfl rfl (fun ext => w_extract rfl (ev_tmp rfl) rfl) ?_
              refine bt_e1 ?_
              refine eff_s0 rfl rfl rfl (opE_storeB0 5 rfl rfl (ev_tmp rfl) (ev_tmp rfl) (as_agg _) rfl Try.sizeOf74 rfl) (fun a _ => (by first | exact invx_mk rfl | exact invx_mk (List.append_assoc _ _ _) | exact invx_all)) ?_
              intro _ _
              refine bt_nil ?_
              refine sq_plain rfl rfl rfl (w_assign rfl (ev_tmp rfl)) ?_
              refine sq_nil ?_
              refine awp_seq ?_
              refine awp_own (by first | (simp only [TAtlas.owF, TAtlas.ocF, TAtlas.ow, TAtlas.ocs, TPlaces.ow, TPlaces.ocs, pick, List.eraseIdx_cons_zero, List.eraseIdx_cons_succ, List.set_cons_zero, List.set_cons_succ, List.cons_append, List.nil_append, List.getElem?_cons_zero, List.getElem?_cons_succ, List.append_nil, List.take_succ_cons, List.take_zero, List.drop_succ_cons, List.drop_zero]; exact rfl) | exact rfl) ?_
              refine awp_region ?_
              refine sq_plain rfl rfl rfl (w_move rfl (ev_tmp rfl)) ?_
              refine sq_nil ?_
              refine awp_cond (ev_tmp rfl) ?_ ?_
              · intro h65
                obtain ⟨a3, ha3⟩ : ∃ a3, (tellGroupS a2 x56.2 x61.2).1 = a3 := ⟨_, rfl⟩
                have hg3 : goodAtlas a3 = true := by (rw [← ha3, ← tellGroup_eq]; exact tellGroup_good (by rw [tellGroup_eq]; exact h65))
                rw [ha3]
                obtain ⟨cc3, hc3⟩ : ∃ cc3, x61.1 = cc3 := ⟨_, rfl⟩
                rw [hc3] at ok61
                rw [hc3]
                refine awp_own (by first | (simp only [TAtlas.owF, TAtlas.ocF, TAtlas.ow, TAtlas.ocs, TPlaces.ow, TPlaces.ocs, pick, List.eraseIdx_cons_zero, List.eraseIdx_cons_succ, List.set_cons_zero, List.set_cons_succ, List.cons_append, List.nil_append, List.getElem?_cons_zero, List.getElem?_cons_succ, List.append_nil, List.take_succ_cons, List.take_zero, List.drop_succ_cons, List.drop_zero]; exact rfl) | exact rfl) ?_
                refine awp_region ?_
                refine sq_plain rfl rfl rfl (w_loadA 5 rfl (ev_tmp rfl) rfl Try.isAgg74 Try.sizeOf74 rfl) ?_
                refine sq_storeB0 0 rfl rfl rfl (ev_tmp rfl) (ev_tmp rfl) (as_agg _) rfl Try.sizeOf74 rfl ?_
                refine sq_nil ?_
                refine awp_own (by first | (simp only [TAtlas.owF, TAtlas.ocF, TAtlas.ow, TAtlas.ocs, TPlaces.ow, TPlaces.ocs, pick, List.eraseIdx_cons_zero, List.eraseIdx_cons_succ, List.set_cons_zero, List.set_cons_succ, List.cons_append, List.nil_append, List.getElem?_cons_zero, List.getElem?_cons_succ, List.append_nil, List.take_succ_cons, List.take_zero, List.drop_succ_cons, List.drop_zero]; exact rfl) | exact rfl) ?_
                refine awp_region ?_
                refine sq_plain rfl rfl rfl (w_move rfl (ev_tmp rfl)) ?_
                refine sq_plain rfl rfl rfl (w_subi rfl (ev_tmp rfl) ev_ci (by first | omega | ((try simp only [List.length_map, List.length_take, List.length_cons, List.length_nil, chunks_len, szR] at *); omega) | (have hc2 := hc; simp only [Bool.and_eq_true, Bool.or_eq_true, Bool.or_eq_false_iff, Bool.and_eq_false_iff, Bool.not_eq_true', Bool.not_eq_false', decide_eq_true_eq, decide_eq_false_iff_not, beq_iff_eq, bne_iff_ne, List.length_map, List.length_take] at hc2; omega))) ?_
                refine sq_plain rfl rfl rfl (w_assign rfl (ev_tmp rfl)) ?_
                refine sq_nil ?_
                refine round_end4 n cc a y (n - 1) (cc3) (a3) ((x62.1, x62.2)) ?_ ?_ (Le.trans (le_pick [1, 4, 0, 3, 3, 2] rfl) (le_dropeq 2 (by rfl) ⟨rfl, rfl, rfl, rfl, trivial⟩))
                · exact ⟨by omega, by omega, hg3⟩
                · omega
              · intro h65
                exfalso; simp only [List.length_map] at ok61; rw [tell_ok hg2 (by omega) (by omega)] at h65; cases h65
          · refine eff_s rfl rfl rfl (opE_alloc rfl Try.zeroValue74 rfl) (fun a _ => (by first | exact invx_mk rfl | exact invx_mk (List.append_assoc _ _ _) | exact invx_all)) ?_
            intro b11 _
            refine bt_e1 ?_
            refine eff_s rfl rfl rfl (opE_call [4] rfl Try.call86 rfl (curPick_own _ _ hcode _ _ (by simp only [List.length_map]; omega) (by omega)) (evl_cons (ev_tmp rfl) (evl_cons (ev_tmp rfl) evl_nil)) rfl) (fun a _ => (by first | exact invx_mk rfl | exact invx_mk (List.append_assoc _ _ _) | exact invx_all)) ?_
            intro x61 ok61
            refine bt_e1 ?_
            refine eff_s rfl rfl rfl (opE_call [] rfl Try.call51 rfl (tellGroupS_ownF a2 x56.2 x61.2 (by omega)) (evl_cons (ev_tmp rfl) (evl_cons (ev_tmp rfl) (evl_cons (ev_tmp rfl) evl_nil))) rfl) (fun a _ => (by first | exact invx_mk rfl | exact invx_mk (List.append_assoc _ _ _) | exact invx_all)) ?_
            intro x62 ok62
            refine bt_plain rfl rfl rfl (fun ext => w_move rfl (ev_tmp rfl)) ?_
            refine bt_plain rfl rfl rfl (fun ext => w_extract rfl (ev_tmp rfl) rfl) ?_
            refine bt_plain rfl rfl rfl (fun ext => w_extract rfl (ev_tmp rfl) rfl) ?_
            refine bt_e1 ?_
            refine eff_s0 rfl rfl rfl (opE_storeB0 4 rfl rfl (ev_tmp rfl) (ev_tmp rfl) (as_agg _) rfl Try.sizeOf74 rfl) (fun a _ => (by first | exact invx_mk rfl | exact invx_mk (List.append_assoc _ _ _) | exact invx_all)) ?_
            intro _ _
            refine bt_nil ?_
            refine sq_plain rfl rfl rfl (w_assign rfl (ev_tmp rfl)) ?_
            refine sq_nil ?_
            refine awp_seq ?_
            refine awp_own (by first | (simp only [TAtlas.owF, TAtlas.ocF, TAtlas.ow, TAtlas.ocs, TPlaces.ow, TPlaces.ocs, pick, List.eraseIdx_cons_zero, List.eraseIdx_cons_succ, List.set_cons_zero, List.set_cons_succ, List.cons_append, List.nil_append, List.getElem?_cons_zero, List.getElem?_cons_succ, List.append_nil, List.take_succ_cons, List.take_zero, List.drop_succ_cons, List.drop_zero]; exact rfl) | exact rfl) ?_
            refine awp_region ?_
            refine sq_plain rfl rfl rfl (w_move rfl (ev_tmp rfl)) ?_
            refine sq_nil ?_
            refine awp_cond (ev_tmp rfl) ?_ ?_
            · intro h65
              obtain ⟨a3, ha3⟩ : ∃ a3, (tellGroupS a2 x56.2 x61.2).1 = a3 := ⟨_, rfl⟩
              have hg3 : goodAtlas a3 = true := by (rw [← ha3, ← tellGroup_eq]; exact tellGroup_good (by rw [tellGroup_eq]; exact h65))
              rw [ha3]
              obtain ⟨cc3, hc3⟩ : ∃ cc3, x61.1 = cc3 := ⟨_, rfl⟩
              rw [hc3] at ok61
              rw [hc3]
              refine awp_own (by first | (simp only [TAtlas.owF, TAtlas.ocF, TAtlas.ow, TAtlas.ocs, TPlaces.ow, TPlaces.ocs, pick, List.eraseIdx_cons_zero, List.eraseIdx_cons_succ, List.set_cons_zero, List.set_cons_succ, List.cons_append, List.nil_append, List.getElem?_cons_zero, List.getElem?_cons_succ, List.append_nil, List.take_succ_cons, List.take_zero, List.drop_succ_cons, List.drop_zero]; exact rfl) | exact rfl) ?_
              refine awp_region ?_
              refine sq_plain rfl rfl rfl (w_loadA 4 rfl (ev_tmp rfl) rfl Try.isAgg74 Try.sizeOf74 rfl) ?_
              refine sq_storeB0 0 rfl rfl rfl (ev_tmp rfl) (ev_tmp rfl) (as_agg _) rfl Try.sizeOf74 rfl ?_
              refine sq_nil ?_
              refine awp_own (by first | (simp only [TAtlas.owF, TAtlas.ocF, TAtlas.ow, TAtlas.ocs, TPlaces.ow, TPlaces.ocs, pick, List.eraseIdx_cons_zero, List.eraseIdx_cons_succ, List.set_cons_zero, List.set_cons_succ, List.cons_append, List.nil_append, List.getElem?_cons_zero, List.getElem?_cons_succ, List.append_nil, List.take_succ_cons, List.take_zero, List.drop_succ_cons, List.drop_zero]; exact rfl) | exact rfl) ?_
              refine awp_region ?_
              refine sq_plain rfl rfl rfl (w_move rfl (ev_tmp rfl)) ?_
              refine sq_plain rfl rfl rfl (w_subi rfl (ev_tmp rfl) ev_ci (by first | omega | ((try simp only [List.length_map, List.length_take, List.length_cons, List.length_nil, chunks_len, szR] at *); omega) | (have hc2 := hc; simp only [Bool.and_eq_true, Bool.or_eq_true, Bool.or_eq_false_iff, Bool.and_eq_false_iff, Bool.not_eq_true', Bool.not_eq_false', decide_eq_true_eq, decide_eq_false_iff_not, beq_iff_eq, bne_iff_ne, List.length_map, List.length_take] at hc2; omega))) ?_
              refine sq_plain rfl rfl rfl (w_assign rfl (ev_tmp rfl)) ?_
              refine sq_nil ?_
              refine round_end4 n cc a y (n - 1) (cc3) (a3) ((x62.1, x62.2)) ?_ ?_ (Le.trans (le_pick [1, 3, 0, 3, 3, 2] rfl) (le_dropeq 2 (by rfl) ⟨rfl, rfl, rfl, rfl, trivial⟩))
              · exact ⟨by omega, by omega, hg3⟩
              · omega
            · intro h65
              exfalso; simp only [List.length_map] at ok61; rw [tell_ok hg2 (by omega) (by omega)] at h65; cases h65
        · refine eff_s rfl rfl rfl (opE_alloc rfl Try.zeroValue74 rfl) (fun a _ => (by first | exact invx_mk rfl | exact invx_mk (List.append_assoc _ _ _) | exact invx_all)) ?_
          intro b11 _
          refine bt_e1 ?_
          refine eff_s rfl rfl rfl (opE_call [1] rfl Try.call86 rfl (curPick_own _ _ hcode _ _ (by omega) (by omega)) (evl_cons (ev_tmp rfl) (evl_cons ev_ci evl_nil)) rfl) (fun a _ => (by first | exact invx_mk rfl | exact invx_mk (List.append_assoc _ _ _) | exact invx_all)) ?_
          intro x56 ok56
          refine bt_e1 ?_
          refine eff_s rfl rfl rfl (opE_call [5] rfl Try.call86 rfl (curPick_own _ _ hcode _ _ (by simp only [List.length_map]; omega) (by omega)) (evl_cons (ev_tmp rfl) (evl_cons (ev_tmp rfl) evl_nil)) rfl) (fun a _ => (by first | exact invx_mk rfl | exact invx_mk (List.append_assoc _ _ _) | exact invx_all)) ?_
          intro x61 ok61
          refine bt_e1 ?_
          refine eff_s rfl rfl rfl (opE_call [] rfl Try.call51 rfl (tellGroupS_ownF a2 x56.2 x61.2 (by omega)) (evl_cons (ev_tmp rfl) (evl_cons (ev_tmp rfl) (evl_cons (ev_tmp rfl) evl_nil))) rfl) (fun a _ => (by first | exact invx_mk rfl | exact invx_mk (List.append_assoc _ _ _) | exact invx_all)) ?_
          intro x62 ok62
          refine bt_plain rfl rfl rfl (fun ext => w_move rfl (ev_tmp rfl)) ?_
          refine bt_plain rfl rfl rfl (fun ext => w_extract rfl (ev_tmp rfl) rfl) ?_
          refine bt_plain rfl rfl rfl (fun ext => w_extract rfl (ev_tmp rfl) rfl) ?_
          refine bt_e1 ?_
          refine eff_s0 rfl rfl rfl (opE_storeB0 4 rfl rfl (ev_tmp rfl) (ev_tmp rfl) (as_agg _) rfl Try.sizeOf74 rfl) (fun a _ => (by first | exact invx_mk rfl | exact invx_mk (List.append_assoc _ _ _) | exact invx_all)) ?_
          intro _ _
          refine bt_nil ?_
          refine sq_plain rfl rfl rfl (w_assign rfl (ev_tmp rfl)) ?_
          refine sq_nil ?_
          refine awp_seq ?_
          refine awp_own (by first | (simp only [TAtlas.owF, TAtlas.ocF, TAtlas.ow, TAtlas.ocs, TPlaces.ow, TPlaces.ocs, pick, List.eraseIdx_cons_zero, List.eraseIdx_cons_succ, List.set_cons_zero, List.set_cons_succ, List.cons_append, List.nil_append, List.getElem?_cons_zero, List.getElem?_cons_succ, List.append_nil, List.take_succ_cons, List.take_zero, List.drop_succ_cons, List.drop_zero]; exact rfl) | exact rfl) ?_
          refine awp_region ?_
          refine sq_plain rfl rfl rfl (w_move rfl (ev_tmp rfl)) ?_
          refine sq_nil ?_
          refine awp_cond (ev_tmp rfl) ?_ ?_
          · intro h65
            obtain ⟨a3, ha3⟩ : ∃ a3, (tellGroupS a2 x56.2 x61.2).1 = a3 := ⟨_, rfl⟩
            have hg3 : goodAtlas a3 = true := by (rw [← ha3, ← tellGroup_eq]; exact tellGroup_good (by rw [tellGroup_eq]; exact h65))
            rw [ha3]
            obtain ⟨cc3, hc3⟩ : ∃ cc3, x61.1 = cc3 := ⟨_, rfl⟩
            rw [hc3] at ok61
            rw [hc3]
            refine awp_own (by first | (simp only [TAtlas.owF, TAtlas.ocF, TAtlas.ow, TAtlas.ocs, TPlaces.ow, TPlaces.ocs, pick, List.eraseIdx_cons_zero, List.eraseIdx_cons_succ, List.set_cons_zero, List.set_cons_succ, List.cons_append, List.nil_append, List.getElem?_cons_zero, List.getElem?_cons_succ, List.append_nil, List.take_succ_cons, List.take_zero, List.drop_succ_cons, List.drop_zero]; exact rfl) | exact rfl) ?_
            refine awp_region ?_
            refine sq_plain rfl rfl rfl (w_loadA 4 rfl (ev_tmp rfl) rfl Try.isAgg74 Try.sizeOf74 rfl) ?_
            refine sq_storeB0 0 rfl rfl rfl (ev_tmp rfl) (ev_tmp rfl) (as_agg _) rfl Try.sizeOf74 rfl ?_
            refine sq_nil ?_
            refine awp_own (by first | (simp only [TAtlas.owF, TAtlas.ocF, TAtlas.ow, TAtlas.ocs, TPlaces.ow, TPlaces.ocs, pick, List.eraseIdx_cons_zero, List.eraseIdx_cons_succ, List.set_cons_zero, List.set_cons_succ, List.cons_append, List.nil_append, List.getElem?_cons_zero, List.getElem?_cons_succ, List.append_nil, List.take_succ_cons, List.take_zero, List.drop_succ_cons, List.drop_zero]; exact rfl) | exact rfl) ?_
            refine awp_region ?_
            refine sq_plain rfl rfl rfl (w_move rfl (ev_tmp rfl)) ?_
            refine sq_plain rfl rfl rfl (w_subi rfl (ev_tmp rfl) ev_ci (by first | omega | ((try simp only [List.length_map, List.length_take, List.length_cons, List.length_nil, chunks_len, szR] at *); omega) | (have hc2 := hc; simp only [Bool.and_eq_true, Bool.or_eq_true, Bool.or_eq_false_iff, Bool.and_eq_false_iff, Bool.not_eq_true', Bool.not_eq_false', decide_eq_true_eq, decide_eq_false_iff_not, beq_iff_eq, bne_iff_ne, List.length_map, List.length_take] at hc2; omega))) ?_
            refine sq_plain rfl rfl rfl (w_assign rfl (ev_tmp rfl)) ?_
            refine sq_nil ?_
            refine round_end4 n cc a y (n - 1) (cc3) (a3) ((x62.1, x62.2)) ?_ ?_ (Le.trans (le_pick [1, 3, 0, 3, 3, 2] rfl) (le_dropeq 2 (by rfl) ⟨rfl, rfl, rfl, rfl, trivial⟩))
            · exact ⟨by omega, by omega, hg3⟩
            · omega
          · intro h65
            exfalso; simp only [List.length_map] at ok61; rw [tell_ok hg2 (by omega) (by omega)] at h65; cases h65
      · intro h52
        obtain ⟨a3, ha3⟩ : ∃ a3, a2 = a3 := ⟨_, rfl⟩
        have hg3 : goodAtlas a3 = true := ha3 ▸ hg2
        rw [ha3]
        obtain ⟨cc3, hc3⟩ : ∃ cc3, x52.1 = cc3 := ⟨_, rfl⟩
        rw [hc3] at ok52
        rw [hc3]
        refine awp_skip ?_
        refine awp_own (by first | (simp only [TAtlas.owF, TAtlas.ocF, TAtlas.ow, TAtlas.ocs, TPlaces.ow, TPlaces.ocs, pick, List.eraseIdx_cons_zero, List.eraseIdx_cons_succ, List.set_cons_zero, List.set_cons_succ, List.cons_append, List.nil_append, List.getElem?_cons_zero, List.getElem?_cons_succ, List.append_nil, List.take_succ_cons, List.take_zero, List.drop_succ_cons, List.drop_zero]; exact rfl) | exact rfl) ?_
        refine awp_region ?_
        refine sq_plain rfl rfl rfl (w_move rfl (ev_tmp rfl)) ?_
        refine sq_plain rfl rfl rfl (w_subi rfl (ev_tmp rfl) ev_ci (by first | omega | ((try simp only [List.length_map, List.length_take, List.length_cons, List.length_nil, chunks_len, szR] at *); omega) | (have hc2 := hc; simp only [Bool.and_eq_true, Bool.or_eq_true, Bool.or_eq_false_iff, Bool.and_eq_false_iff, Bool.not_eq_true', Bool.not_eq_false', decide_eq_true_eq, decide_eq_false_iff_not, beq_iff_eq, bne_iff_ne, List.length_map, List.length_take] at hc2; omega))) ?_
        refine sq_plain rfl rfl rfl (w_assign rfl (ev_tmp rfl)) ?_
        refine sq_nil ?_
        refine round_end4 n cc a y (n - 1) (cc3) (a3) ((y.1, y.2)) ?_ ?_ (Le.trans (le_pick [1, 1, 1, 1, 0] rfl) (le_dropeq 1 (by rfl) ⟨rfl, rfl, rfl, rfl, trivial⟩))
        · exact ⟨by omega, by omega, hg3⟩
        · omega
  · intro h26
    have k26 := of_decide_eq_false h26; try simp only [List.length_map] at k26
    refine awp_exit ?_
    refine awp_seq ?_
    refine awp_region ?_
    refine sq_plain rfl rfl rfl (w_loadA 0 rfl (ev_tmp rfl) rfl Try.isAgg74 Try.sizeOf74 rfl) ?_
    refine sq_storeB0 5 rfl rfl rfl (ev_tmp rfl) (ev_tmp rfl) (as_agg _) rfl Try.sizeOf74 rfl ?_
    refine sq_nil ?_
    refine awp_ret ?_
    (refine retG [3, 1, 1] ((cc, a, y)) ?_ rfl (by first | (dsimp only; rfl) | rfl) (resR rfl (rv_cell (ys := _) 5 rfl rfl Try.isAgg74 Try.sizeOf74 rfl)); exact ⟨show cc.p ≤ _ by omega, hinv.2.2⟩)
theorem curBentAtlas_own (b : Nat) (code : List Int) (hcode : ByteL code) (c : TCur) (hp : c.p ≤ 1000000) : GSpec Try.prog 119 [AV.ptr b 0] [.box b 112 (curC code c)] (fun x : TCur × TAtlas => x.1.p ≤ c.p + 280 ∧ x.2.size ≤ 2000) (fun x => [.box b 112 (curC code x.1)]) (fun x => AV.agg x.2.cs) := by
  refine gspec_of_awp Try.func119 rfl Try.ntmps119 rfl ?_
  refine awp_seq ?_
  refine awp_region ?_
  refine sq_alloc rfl rfl rfl rfl Try.zeroValue74 rfl ?_
  intro b2
  refine sq_nil ?_
  refine awp_seq ?_
  refine awp_region ?_
  refine sq_plain rfl rfl rfl (w_move rfl (ev_tmp rfl)) ?_
  refine sq_callG [1] rfl rfl rfl rfl Try.call176 rfl (curAtlas_own _ _ hcode _ (by omega)) (evl_cons (ev_tmp rfl) evl_nil) rfl ?_
  intro x5 ok5
  obtain ⟨f1, f2, f3, f4⟩ := atlas_facts ok5.2
  have hs5 := atlas_size ok5.2
  unfold TAtlas.size at hs5
  refine sq_alloc rfl rfl rfl rfl Try.zeroValue74 rfl ?_
  intro b3
  refine sq_storeB0 0 rfl rfl rfl (ev_tmp rfl) (ev_tmp rfl) (as_agg _) rfl Try.sizeOf74 rfl ?_
  refine sq_nil ?_
  refine awp_seq ?_
  refine awp_seq ?_
  refine awp_own (by first | (simp only [TAtlas.owF, TAtlas.ocF, pick, List.eraseIdx_cons_zero, List.eraseIdx_cons_succ, List.set_cons_zero, List.set_cons_succ, List.cons_append, List.nil_append, List.getElem?_cons_zero, List.getElem?_cons_succ, List.append_nil, List.take_succ_cons, List.take_zero, List.drop_succ_cons, List.drop_zero]; exact rfl) | exact rfl) ?_
  refine awp_region ?_
  refine sq_plain rfl rfl rfl (w_move rfl (ev_tmp rfl)) ?_
  refine sq_callG [1] rfl rfl rfl rfl Try.call86 rfl (curPick_own _ _ hcode _ _ (by omega) (by omega)) (evl_cons (ev_tmp rfl) (evl_cons ev_ci evl_nil)) rfl ?_
  intro x7 ok7
  refine sq_nil ?_
  refine awp_block ?_
  refine awp_seq ?_
  refine awp_region ?_
  refine sq_plain rfl rfl rfl (w_eql rfl (ev_tmp rfl) ev_ci) ?_
  refine sq_plain rfl rfl rfl (w_assign rfl (ev_tmp rfl)) ?_
  refine sq_nil ?_
  refine awp_cond (ev_tmp rfl) ?_ ?_
  · intro h8
    have k8 := eq_of_beqt h8; try simp only [List.length_map] at k8
    have hset : ∀ (k : Int) (z : Int), ((x5.2.1.Knows.map fun x => [AV.int x]).set k.toNat [AV.ik IntKind.i64 z]) = (x5.2.1.Knows.set k.toNat z).map fun x => [AV.int x] := fun k z => by rw [List.map_set]; rfl
    refine AWP.le (le_pick [1, 3, 1, 1] rfl) ?_
    refine awp_region_mix _ [(0, false), (1, false), (2, false), (4, false), (3, true), (5, true), (6, false)] (by kernel_rfl) (by kernel_rfl) rfl (invx_take 4) ?_
    refine bc_plain rfl rfl rfl (fun ext => w_fldBn 1 rfl Try.underlying74 rfl Try.sizeOf55 (ev_tmp rfl) rfl) ?_
    refine bc_plain rfl rfl rfl (fun ext => w_loadB1 0 rfl (ev_tmp rfl) rfl Try.isAgg55 rfl) ?_
    refine bc_plain rfl rfl rfl (fun ext => w_move rfl (ev_tmp rfl)) ?_
    refine bc_plain rfl rfl rfl (fun ext => w_move rfl (ev_tmp rfl)) ?_
    refine bc_eff rfl rfl rfl (opE_call [4] rfl Try.call86 rfl (curPick_own _ _ hcode _ _ (by omega) (by omega)) (evl_cons (ev_tmp rfl) (evl_cons ev_ci evl_nil)) rfl) (fun a _ => (by first | exact invx_mk rfl | exact invx_mk (List.append_assoc _ _ _) | exact invx_all)) ?_
    intro x13 ok13
    refine bc_eff rfl rfl rfl (opE_call [4] rfl Try.call86 rfl (curPick_own _ _ hcode _ _ (by omega) (by omega)) (evl_cons (ev_tmp rfl) (evl_cons ev_ci evl_nil)) rfl) (fun a _ => (by first | exact invx_mk rfl | exact invx_mk (List.append_assoc _ _ _) | exact invx_all)) ?_
    intro x15 ok15
    refine bc_plain rfl rfl rfl (fun ext => w_subi rfl (ev_tmp rfl) ev_ci (by first | omega | ((try simp only [List.length_map, List.length_take, List.length_cons, List.length_nil, chunks_len, szR] at *); omega) | (have hc2 := hc; simp only [Bool.and_eq_true, Bool.or_eq_true, Bool.or_eq_false_iff, Bool.and_eq_false_iff, Bool.not_eq_true', Bool.not_eq_false', decide_eq_true_eq, decide_eq_false_iff_not, beq_iff_eq, bne_iff_ne, List.length_map, List.length_take] at hc2; omega))) ?_
    refine bc_nil ?_
    refine sq_plain rfl rfl rfl (w_aidx 3 rfl Try.underlying55 Try.sizeOf3 (ev_tmp rfl) rfl (ev_tmp rfl) (by first | omega | ((try simp only [List.length_map, List.length_take, List.length_cons, List.length_nil, chunks_len, szR] at *); omega) | (have hc2 := hc; simp only [Bool.and_eq_true, Bool.or_eq_true, Bool.or_eq_false_iff, Bool.and_eq_false_iff, Bool.not_eq_true', Bool.not_eq_false', decide_eq_true_eq, decide_eq_false_iff_not, beq_iff_eq, bne_iff_ne, List.length_map, List.length_take] at hc2; omega)) (by first | omega | ((try simp only [List.length_map, List.length_take, List.length_cons, List.length_nil, chunks_len, szR] at *); omega) | (have hc2 := hc; simp only [Bool.and_eq_true, Bool.or_eq_true, Bool.or_eq_false_iff, Bool.and_eq_false_iff, Bool.not_eq_true', Bool.not_eq_false', decide_eq_true_eq, decide_eq_false_iff_not, beq_iff_eq, bne_iff_ne, List.length_map, List.length_take] at hc2; omega))) ?_
    refine sq_storeA 3 rfl rfl rfl (ev_tmp rfl) (ev_tmp rfl) (as_ik _ _) rfl Try.sizeOf3 rfl (by first | omega | ((try simp only [List.length_map, List.length_take, List.length_cons, List.length_nil, chunks_len, szR] at *); omega) | (have hc2 := hc; simp only [Bool.and_eq_true, Bool.or_eq_true, Bool.or_eq_false_iff, Bool.and_eq_false_iff, Bool.not_eq_true', Bool.not_eq_false', decide_eq_true_eq, decide_eq_false_iff_not, beq_iff_eq, bne_iff_ne, List.length_map, List.length_take] at hc2; omega)) ?_
    refine sq_nil ?_
    refine awp_seq ?_
    try rw [hset]
    refine awp_own (by first | (simp only [TAtlas.owF, TAtlas.ocF, pick, List.eraseIdx_cons_zero, List.eraseIdx_cons_succ, List.set_cons_zero, List.set_cons_succ, List.cons_append, List.nil_append, List.getElem?_cons_zero, List.getElem?_cons_succ, List.append_nil, List.take_succ_cons, List.take_zero, List.drop_succ_cons, List.drop_zero]; exact rfl) | exact rfl) ?_
    refine awp_region ?_
    refine sq_plain rfl rfl rfl (w_loadA 0 rfl (ev_tmp rfl) rfl Try.isAgg74 Try.sizeOf74 rfl) ?_
    refine sq_le (le_sealD [2, 2] 39 rfl rfl (lt_agg (lc_cons (lt_arr (List.mem_of_getElem? (i := 0) rfl) le_refl_e) (lc_cons (lt_arr (List.mem_of_getElem? (i := 1) rfl) le_refl_e) lc_nil))) (gin_cons 2 rfl rfl gin_nil)) ?_
    refine sq_storeB0 1 rfl rfl rfl (ev_tmp rfl) (ev_tmp rfl) (as_agg _) rfl Try.sizeOf74 rfl ?_
    refine sq_nil ?_
    refine awp_ret ?_
    (refine retG [2] ((x15.1, ⟨x5.2.1.Maps, x5.2.1.Knows.set x13.2.toNat (x15.2 - 1)⟩)) ?_ rfl (by first | (dsimp only; rfl) | rfl) (resR rfl (rv_cell (ys := _) 1 rfl rfl Try.isAgg74 Try.sizeOf74 (by first | rfl | (dsimp only [TAtlas.cs]; rw [List.map_append]; rfl)))); (dsimp only [TAtlas.size]; first | exact ⟨by omega, by omega⟩ | exact ⟨by omega, by rw [List.length_set]; omega⟩ | exact ⟨by omega, by rw [List.length_drop]; omega⟩ | exact ⟨by omega, by rw [sizeL_snoc]; omega⟩ | exact ⟨by omega, by have h9 := sizeL_sub (f := TPlaces.size) (List.drop_sublist 1 x5.2.1.Maps); omega⟩))
  · intro h8
    have k8 := ne_of_beqf h8; try simp only [List.length_map] at k8
    refine awp_seq ?_
    refine awp_region ?_
    refine sq_plain rfl rfl rfl (w_eql rfl (ev_tmp rfl) ev_ci) ?_
    refine sq_plain rfl rfl rfl (w_assign rfl (ev_tmp rfl)) ?_
    refine sq_nil ?_
    refine awp_cond (ev_tmp rfl) ?_ ?_
    · intro h18
      have k18 := eq_of_beqt h18; try simp only [List.length_map] at k18
      refine awp_region ?_
      refine sq_plain rfl rfl rfl (w_fldBn 1 rfl Try.underlying74 rfl Try.sizeOf55 (ev_tmp rfl) rfl) ?_
      refine sq_plain rfl rfl rfl (w_loadB1 1 rfl (ev_tmp rfl) rfl Try.isAgg55 rfl) ?_
      refine sq_le (le_sealD [3] 21 rfl rfl (lt_arr (List.mem_of_getElem? (i := 0) rfl) le_refl_e) (gin_cons 0 rfl rfl gin_nil)) ?_
      refine sq_plain rfl rfl rfl (w_lsl_lom rfl Try.underlying55 Try.sizeOf3 (ev_tmp rfl) ev_ci (by first | omega | ((try simp only [List.length_map, List.length_take, List.length_cons, List.length_nil, chunks_len, szR] at *); omega) | (have hc2 := hc; simp only [Bool.and_eq_true, Bool.or_eq_true, Bool.or_eq_false_iff, Bool.and_eq_false_iff, Bool.not_eq_true', Bool.not_eq_false', decide_eq_true_eq, decide_eq_false_iff_not, beq_iff_eq, bne_iff_ne, List.length_map, List.length_take] at hc2; omega)) (by first | omega | ((try simp only [List.length_map, List.length_take, List.length_cons, List.length_nil, chunks_len, szR] at *); omega) | (have hc2 := hc; simp only [Bool.and_eq_true, Bool.or_eq_true, Bool.or_eq_false_iff, Bool.and_eq_false_iff, Bool.not_eq_true', Bool.not_eq_false', decide_eq_true_eq, decide_eq_false_iff_not, beq_iff_eq, bne_iff_ne, List.length_map, List.length_take] at hc2; omega))) ?_
      refine sq_plain rfl rfl rfl (w_fldBn 1 rfl Try.underlying74 rfl Try.sizeOf55 (ev_tmp rfl) rfl) ?_
      refine sq_storeB1 1 rfl rfl rfl (ev_tmp rfl) (ev_tmp rfl) (as_list _ _) rfl Try.sizeOf55 rfl ?_
      refine sq_nil ?_
      refine awp_seq ?_
      try rw [hset]
      refine awp_own (by first | (simp only [TAtlas.owF, TAtlas.ocF, pick, List.eraseIdx_cons_zero, List.eraseIdx_cons_succ, List.set_cons_zero, List.set_cons_succ, List.cons_append, List.nil_append, List.getElem?_cons_zero, List.getElem?_cons_succ, List.append_nil, List.take_succ_cons, List.take_zero, List.drop_succ_cons, List.drop_zero]; exact rfl) | exact rfl) ?_
      refine awp_region ?_
      refine sq_plain rfl rfl rfl (w_loadA 1 rfl (ev_tmp rfl) rfl Try.isAgg74 Try.sizeOf74 rfl) ?_
      refine sq_le (le_sealD [2] 39 rfl rfl (lt_agg (lc_cons (lt_arr (List.mem_of_getElem? (i := 0) rfl) le_refl_e) (lc_cons lt_refl lc_nil))) (gin_cons 0 rfl rfl gin_nil)) ?_
      refine sq_storeB0 2 rfl rfl rfl (ev_tmp rfl) (ev_tmp rfl) (as_agg _) rfl Try.sizeOf74 rfl ?_
      refine sq_nil ?_
      refine awp_ret ?_
      (refine retG [0] ((x7.1, ⟨x5.2.1.Maps, x5.2.1.Knows.drop 1⟩)) ?_ rfl (by first | (dsimp only; rfl) | rfl) (resR rfl (rv_cell (ys := _) 2 rfl rfl Try.isAgg74 Try.sizeOf74 (by first | rfl | (dsimp only [TAtlas.cs]; rw [List.map_append]; rfl)))); (dsimp only [TAtlas.size]; first | exact ⟨by omega, by omega⟩ | exact ⟨by omega, by rw [List.length_set]; omega⟩ | exact ⟨by omega, by rw [List.length_drop]; omega⟩ | exact ⟨by omega, by rw [sizeL_snoc]; omega⟩ | exact ⟨by omega, by have h9 := sizeL_sub (f := TPlaces.size) (List.drop_sublist 1 x5.2.1.Maps); omega⟩))
    · intro h18
      have k18 := ne_of_beqf h18; try simp only [List.length_map] at k18
      refine awp_seq ?_
      refine awp_region ?_
      refine sq_plain rfl rfl rfl (w_eql rfl (ev_tmp rfl) ev_ci) ?_
      refine sq_plain rfl rfl rfl (w_assign rfl (ev_tmp rfl)) ?_
      refine sq_nil ?_
      refine awp_cond (ev_tmp rfl) ?_ ?_
      · intro h24
        have k24 := eq_of_beqt h24; try simp only [List.length_map] at k24
        refine AWP.le (le_pick [1, 3, 2] rfl) ?_
        refine awp_region_mix _ [(0, false), (1, false), (2, false), (3, true), (4, false), (5, true)] (by kernel_rfl) (by kernel_rfl) rfl (invx_take 3) ?_
        refine bc_plain rfl rfl rfl (fun ext => w_fldBn 0 rfl Try.underlying74 rfl Try.sizeOf72 (ev_tmp rfl) rfl) ?_
        refine bc_plain rfl rfl rfl (fun ext => w_loadB1 0 rfl (ev_tmp rfl) rfl Try.isAgg72 rfl) ?_
        refine bc_plain rfl rfl rfl (fun ext => w_move rfl (ev_tmp rfl)) ?_
        refine bc_eff rfl rfl rfl (opE_call [3] rfl Try.call104 rfl (curBentPlacesS_own _ _ hcode _ (by omega)) (evl_cons (ev_tmp rfl) evl_nil) rfl) (fun a _ => (by first | exact invx_mk rfl | exact invx_mk (List.append_assoc _ _ _) | exact invx_all)) ?_
        intro x29 ok29
        refine bc_plain rfl rfl rfl (fun ext => w_bslice rfl Try.underlying72 Try.sizeOf57 Try.zeroValue57 rfl rfl rfl rfl (bp_cons (ev_tmp rfl) (as_agg _) bp_nil) rfl rfl) ?_
        refine bc_eff rfl rfl rfl (opE_append (by' := 56) 3 rfl Try.underlying72 Try.type57 rfl rfl rfl rfl rfl rfl (ev_tmp rfl) (ev_tmp rfl) rfl (by first | omega | ((try simp only [List.length_map, List.length_take, List.length_cons, List.length_nil, chunks_len, szR] at *); omega) | (have hc2 := hc; simp only [Bool.and_eq_true, Bool.or_eq_true, Bool.or_eq_false_iff, Bool.and_eq_false_iff, Bool.not_eq_true', Bool.not_eq_false', decide_eq_true_eq, decide_eq_false_iff_not, beq_iff_eq, bne_iff_ne, List.length_map, List.length_take] at hc2; omega))) (fun a _ => (by first | exact invx_mk rfl | exact invx_mk (List.append_assoc _ _ _) | exact invx_all)) ?_
        intro v31_1 _
        refine bc_nil ?_
        refine sq_plain rfl rfl rfl (w_fldBn 0 rfl Try.underlying74 rfl Try.sizeOf72 (ev_tmp rfl) rfl) ?_
        refine sq_fact 3 rfl fun one_v31_1 => ?_
        refine sq_storeB1 0 rfl rfl rfl (ev_tmp rfl) (ev_tmp rfl) (as_is one_v31_1) rfl Try.sizeOf72 rfl ?_
        refine sq_nil ?_
        refine awp_seq ?_
        try rw [hset]
        refine awp_own (by first | (simp only [TAtlas.owF, TAtlas.ocF, pick, List.eraseIdx_cons_zero, List.eraseIdx_cons_succ, List.set_cons_zero, List.set_cons_succ, List.cons_append, List.nil_append, List.getElem?_cons_zero, List.getElem?_cons_succ, List.append_nil, List.take_succ_cons, List.take_zero, List.drop_succ_cons, List.drop_zero]; exact rfl) | exact rfl) ?_
        refine awp_region ?_
        refine sq_plain rfl rfl rfl (w_loadA 0 rfl (ev_tmp rfl) rfl Try.isAgg74 Try.sizeOf74 rfl) ?_
        refine sq_le (le_sealD [3, 2] 39 rfl rfl (lt_agg (lc_cons (lt_arr (List.mem_of_getElem? (i := 0) rfl) le_refl_e) (lc_cons (lt_arr (List.mem_of_getElem? (i := 1) rfl) le_refl_e) lc_nil))) (gin_cons 2 rfl rfl gin_nil)) ?_
        refine sq_storeB0 1 rfl rfl rfl (ev_tmp rfl) (ev_tmp rfl) (as_agg _) rfl Try.sizeOf74 rfl ?_
        refine sq_nil ?_
        refine awp_ret ?_
        (refine retG [2] ((x29.1, ⟨x5.2.1.Maps ++ [x29.2], x5.2.1.Knows⟩)) ?_ rfl (by first | (dsimp only; rfl) | rfl) (resR rfl (rv_cell (ys := _) 1 rfl rfl Try.isAgg74 Try.sizeOf74 (by first | rfl | (dsimp only [TAtlas.cs]; rw [List.map_append]; rfl)))); (dsimp only [TAtlas.size]; first | exact ⟨by omega, by omega⟩ | exact ⟨by omega, by rw [List.length_set]; omega⟩ | exact ⟨by omega, by rw [List.length_drop]; omega⟩ | exact ⟨by omega, by rw [sizeL_snoc]; omega⟩ | exact ⟨by omega, by have h9 := sizeL_sub (f := TPlaces.size) (List.drop_sublist 1 x5.2.1.Maps); omega⟩))
      · intro h24
        have k24 := ne_of_beqf h24; try simp only [List.length_map] at k24
        refine awp_seq ?_
        refine awp_region ?_
        refine sq_plain rfl rfl rfl (w_eql rfl (ev_tmp rfl) ev_ci) ?_
        refine sq_plain rfl rfl rfl (w_assign rfl (ev_tmp rfl)) ?_
        refine sq_nil ?_
        refine awp_cond (ev_tmp rfl) ?_ ?_
        · intro h33
          have k33 := eq_of_beqt h33; try simp only [List.length_map] at k33
          refine awp_region ?_
          refine sq_plain rfl rfl rfl (w_fldBn 0 rfl Try.underlying74 rfl Try.sizeOf72 (ev_tmp rfl) rfl) ?_
          refine sq_plain rfl rfl rfl (w_loadB1 1 rfl (ev_tmp rfl) rfl Try.isAgg72 rfl) ?_
          refine sq_le (le_sealD [2] 36 rfl rfl (lt_arr (List.mem_of_getElem? (i := 0) rfl) le_refl_e) (gin_cons 0 rfl rfl gin_nil)) ?_
          refine sq_plain rfl rfl rfl (w_lsl_lom rfl Try.underlying72 Try.sizeOf57 (ev_tmp rfl) ev_ci (by first | omega | ((try simp only [List.length_map, List.length_take, List.length_cons, List.length_nil, chunks_len, szR] at *); omega) | (have hc2 := hc; simp only [Bool.and_eq_true, Bool.or_eq_true, Bool.or_eq_false_iff, Bool.and_eq_false_iff, Bool.not_eq_true', Bool.not_eq_false', decide_eq_true_eq, decide_eq_false_iff_not, beq_iff_eq, bne_iff_ne, List.length_map, List.length_take] at hc2; omega)) (by first | omega | ((try simp only [List.length_map, List.length_take, List.length_cons, List.length_nil, chunks_len, szR] at *); omega) | (have hc2 := hc; simp only [Bool.and_eq_true, Bool.or_eq_true, Bool.or_eq_false_iff, Bool.and_eq_false_iff, Bool.not_eq_true', Bool.not_eq_false', decide_eq_true_eq, decide_eq_false_iff_not, beq_iff_eq, bne_iff_ne, List.length_map, List.length_take] at hc2; omega))) ?_
          refine sq_plain rfl rfl rfl (w_fldBn 0 rfl Try.underlying74 rfl Try.sizeOf72 (ev_tmp rfl) rfl) ?_
          refine sq_storeB1 1 rfl rfl rfl (ev_tmp rfl) (ev_tmp rfl) (as_list _ _) rfl Try.sizeOf72 rfl ?_
          refine sq_nil ?_
          refine awp_seq ?_
          try rw [hset]
          refine awp_own (by first | (simp only [TAtlas.owF, TAtlas.ocF, pick, List.eraseIdx_cons_zero, List.eraseIdx_cons_succ, List.set_cons_zero, List.set_cons_succ, List.cons_append, List.nil_append, List.getElem?_cons_zero, List.getElem?_cons_succ, List.append_nil, List.take_succ_cons, List.take_zero, List.drop_succ_cons, List.drop_zero]; exact rfl) | exact rfl) ?_
          refine awp_region ?_
          refine sq_plain rfl rfl rfl (w_loadA 1 rfl (ev_tmp rfl) rfl Try.isAgg74 Try.sizeOf74 rfl) ?_
          refine sq_le (le_sealD [2] 39 rfl rfl (lt_agg (lc_cons lt_refl (lc_cons (lt_arr (List.mem_of_getElem? (i := 0) rfl) le_refl_e) lc_nil))) (gin_cons 0 rfl rfl gin_nil)) ?_
          refine sq_storeB0 2 rfl rfl rfl (ev_tmp rfl) (ev_tmp rfl) (as_agg _) rfl Try.sizeOf74 rfl ?_
          refine sq_nil ?_
          refine awp_ret ?_
          (refine retG [0] ((x7.1, ⟨x5.2.1.Maps.drop 1, x5.2.1.Knows⟩)) ?_ rfl (by first | (dsimp only; rfl) | rfl) (resR rfl (rv_cell (ys := _) 2 rfl rfl Try.isAgg74 Try.sizeOf74 (by first | rfl | (dsimp only [TAtlas.cs]; rw [List.map_append]; rfl)))); (dsimp only [TAtlas.size]; first | exact ⟨by omega, by omega⟩ | exact ⟨by omega, by rw [List.length_set]; omega⟩ | exact ⟨by omega, by rw [List.length_drop]; omega⟩ | exact ⟨by omega, by rw [sizeL_snoc]; omega⟩ | exact ⟨by omega, by have h9 := sizeL_sub (f := TPlaces.size) (List.drop_sublist 1 x5.2.1.Maps); omega⟩))
        · intro h33
          have k33 := ne_of_beqf h33; try simp only [List.length_map] at k33
          refine awp_skip ?_
          refine awp_seq ?_
          try rw [hset]
          refine awp_own (by first | (simp only [TAtlas.owF, TAtlas.ocF, pick, List.eraseIdx_cons_zero, List.eraseIdx_cons_succ, List.set_cons_zero, List.set_cons_succ, List.cons_append, List.nil_append, List.getElem?_cons_zero, List.getElem?_cons_succ, List.append_nil, List.take_succ_cons, List.take_zero, List.drop_succ_cons, List.drop_zero]; exact rfl) | exact rfl) ?_
          refine awp_region ?_
          refine sq_plain rfl rfl rfl (w_loadA 1 rfl (ev_tmp rfl) rfl Try.isAgg74 Try.sizeOf74 rfl) ?_
          refine sq_le (le_sealD [2, 2] 39 rfl rfl (lt_agg (lc_cons (lt_arr (List.mem_of_getElem? (i := 0) rfl) le_refl_e) (lc_cons (lt_arr (List.mem_of_getElem? (i := 1) rfl) le_refl_e) lc_nil))) (gin_cons 0 rfl rfl gin_nil)) ?_
          refine sq_storeB0 2 rfl rfl rfl (ev_tmp rfl) (ev_tmp rfl) (as_agg _) rfl Try.sizeOf74 rfl ?_
          refine sq_nil ?_
          refine awp_ret ?_
          (refine retG [0] ((x7.1, x5.2.1)) ?_ rfl (by first | (dsimp only; rfl) | rfl) (resR rfl (rv_cell (ys := _) 2 rfl rfl Try.isAgg74 Try.sizeOf74 (by first | rfl | (dsimp only [TAtlas.cs]; rw [List.map_append]; rfl)))); (dsimp only [TAtlas.size]; first | exact ⟨by omega, by omega⟩ | exact ⟨by omega, by rw [List.length_set]; omega⟩ | exact ⟨by omega, by rw [List.length_drop]; omega⟩ | exact ⟨by omega, by rw [sizeL_snoc]; omega⟩ | exact ⟨by omega, by have h9 := sizeL_sub (f := TPlaces.size) (List.drop_sublist 1 x5.2.1.Maps); omega⟩))
theorem drawTellGroup_own (code : List Int) (hcode : ByteL code) : GSpec Try.prog 49 [bytesI code] [] (fun x : TAtlas × Int × Int => x.1.size ≤ 2000) (fun x => []) (fun x => AV.tup [AV.agg x.1.cs, AV.int x.2.1, AV.int x.2.2]) := by
  refine gspec_of_awp Try.func49 rfl Try.ntmps49 rfl ?_
  refine awp_seq ?_
  refine awp_region ?_
  refine sq_alloc rfl rfl rfl rfl Try.zeroValue74 rfl ?_
  intro b2
  refine sq_plain rfl rfl rfl (w_assign rfl ev_ci) ?_
  refine sq_plain rfl rfl rfl (w_assign rfl ev_ci) ?_
  refine sq_nil ?_
  refine awp_seq ?_
  refine awp_region ?_
  refine sq_plain rfl rfl rfl (w_move rfl (ev_tmp rfl)) ?_
  refine sq_plain rfl rfl rfl (w_build (places := #[(0, 1), (1, 1), (2, 1)]) rfl Try.underlying112 Try.zeroValue112 (fun w => by kernel_rfl) rfl (bp_cons (ev_tmp rfl) (as_list _ _) bp_nil) rfl) ?_
  refine sq_box rfl rfl rfl rfl (ev_tmp rfl) ?_
  intro b9
  refine sq_plain rfl rfl rfl (w_assign rfl (ev_tmp rfl)) ?_
  refine sq_nil ?_
  refine awp_seq ?_
  refine awp_region ?_
  refine sq_plain rfl rfl rfl (w_move rfl (ev_tmp rfl)) ?_
  refine sq_callG [0] rfl rfl rfl rfl Try.call119 rfl (curBentAtlas_own _ _ hcode ⟨0, 0⟩ (by decide)) (evl_cons (ev_tmp rfl) evl_nil) rfl ?_
  intro x11 ok11
  have hp11 : x11.1.p ≤ 280 := ok11.1
  have hl11 := atlas_lens ok11.2
  refine sq_alloc rfl rfl rfl rfl Try.zeroValue74 rfl ?_
  intro b6
  refine sq_storeB0 0 rfl rfl rfl (ev_tmp rfl) (ev_tmp rfl) (as_agg _) rfl Try.sizeOf74 rfl ?_
  refine sq_nil ?_
  refine awp_seq ?_
  refine AWP.le (le_pick [0] rfl) ?_
  refine awp_region_tree0 _ 14 (.pure 0 (.pure 1 (.pure 4 (.pure 5 (.pure 6 (.pure 7 (.pure 8 (.e1 2 (.pure 3 (.e1 9 (.pure 10 (.e1 11 (.pure 12 (.pure 13 .nil)))))))))))))) (by kernel_rfl) (by kernel_rfl) rfl (invx_take 1) ?_
  refine bt_plain rfl rfl rfl (fun ext => w_loadA 0 rfl (ev_tmp rfl) rfl Try.isAgg74 Try.sizeOf74 rfl) ?_
  refine bt_plain rfl rfl rfl (fun ext => w_move rfl (ev_tmp rfl)) ?_
  refine bt_plain rfl rfl rfl (fun ext => w_move rfl (ev_tmp rfl)) ?_
  refine bt_plain rfl rfl rfl (fun ext => w_fldBn 0 rfl Try.underlying74 rfl Try.sizeOf72 (ev_tmp rfl) rfl) ?_
  refine bt_plain rfl rfl rfl (fun ext => w_loadB1 0 rfl (ev_tmp rfl) rfl Try.isAgg72 rfl) ?_
  refine bt_plain rfl rfl rfl (fun ext => w_llen rfl Try.underlying72 (ev_tmp rfl)) ?_
  refine bt_plain rfl rfl rfl (fun ext => w_addi rfl (ev_tmp rfl) ev_ci (by first | omega | ((try simp only [List.length_map, List.length_take, List.length_cons, List.length_nil, chunks_len, szR] at *); omega) | (have hc2 := hc; simp only [Bool.and_eq_true, Bool.or_eq_true, Bool.or_eq_false_iff, Bool.and_eq_false_iff, Bool.not_eq_true', Bool.not_eq_false', decide_eq_true_eq, decide_eq_false_iff_not, beq_iff_eq, bne_iff_ne, List.length_map, List.length_take] at hc2; omega))) ?_
  refine bt_e1 ?_
  refine eff_s rfl rfl rfl (opE_call [1] rfl Try.call86 rfl (curPick_own _ _ hcode _ _ (by omega) (by omega)) (evl_cons (ev_tmp rfl) (evl_cons ev_ci evl_nil)) rfl) (fun a _ => (by first | exact invx_mk rfl | exact invx_mk (List.append_assoc _ _ _) | exact invx_all)) ?_
  intro x14 ok14
  refine bt_plain rfl rfl rfl (fun ext => w_subi rfl (ev_tmp rfl) ev_ci (by first | omega | ((try simp only [List.length_map, List.length_take, List.length_cons, List.length_nil, chunks_len, szR] at *); omega) | (have hc2 := hc; simp only [Bool.and_eq_true, Bool.or_eq_true, Bool.or_eq_false_iff, Bool.and_eq_false_iff, Bool.not_eq_true', Bool.not_eq_false', decide_eq_true_eq, decide_eq_false_iff_not, beq_iff_eq, bne_iff_ne, List.length_map, List.length_take] at hc2; omega))) ?_
  refine bt_e1 ?_
  refine eff_s rfl rfl rfl (opE_call [2] rfl Try.call86 rfl (curPick_own _ _ hcode _ _ (by first | omega | (simp only [List.length_map]; omega)) (by omega)) (evl_cons (ev_tmp rfl) (evl_cons (ev_tmp rfl) evl_nil)) rfl) (fun a _ => (by first | exact invx_mk rfl | exact invx_mk (List.append_assoc _ _ _) | exact invx_all)) ?_
  intro x21 ok21
  refine bt_plain rfl rfl rfl (fun ext => w_subi rfl (ev_tmp rfl) ev_ci (by first | omega | ((try simp only [List.length_map, List.length_take, List.length_cons, List.length_nil, chunks_len, szR] at *); omega) | (have hc2 := hc; simp only [Bool.and_eq_true, Bool.or_eq_true, Bool.or_eq_false_iff, Bool.and_eq_false_iff, Bool.not_eq_true', Bool.not_eq_false', decide_eq_true_eq, decide_eq_false_iff_not, beq_iff_eq, bne_iff_ne, List.length_map, List.length_take] at hc2; omega))) ?_
  refine bt_e1 ?_
  refine eff_s0 rfl rfl rfl (opE_storeB0 1 rfl rfl (ev_tmp rfl) (ev_tmp rfl) (as_agg _) rfl Try.sizeOf74 rfl) (fun a _ => (by first | exact invx_mk rfl | exact invx_mk (List.append_assoc _ _ _) | exact invx_all)) ?_
  intro _ _
  refine bt_plain rfl rfl rfl (fun ext => w_assign rfl (ev_tmp rfl)) ?_
  refine bt_plain rfl rfl rfl (fun ext => w_assign rfl (ev_tmp rfl)) ?_
  refine bt_nil ?_
  refine sq_nil ?_
  refine awp_ret ?_
  (refine retG [] ((x11.2, x14.2 - 1, x21.2 - 1)) ?_ rfl (by first | (dsimp only; rfl) | rfl) (resN rfl (by decide) (rv_cons (rv_cell (ys := _) 1 rfl rfl Try.isAgg74 Try.sizeOf74 rfl) (rv_cons (rv_tmp' rfl (by rfl)) (rv_cons (rv_tmp' rfl (by rfl)) rv_nil)))); exact ok11.2)
theorem drawWayFor_own (code : List Int) (hcode : ByteL code) : GSpec Try.prog 38 [bytesI code] [] (fun x : TAtlas × Int × Str => x.1.size ≤ 2000 ∧ x.2.2.length ≤ 64) (fun x => []) (fun x => AV.tup [AV.agg x.1.cs, AV.int x.2.1, AV.str x.2.2]) := by
  refine gspec_of_awp Try.func38 rfl Try.ntmps38 rfl ?_
  refine awp_seq ?_
  refine awp_region ?_
  refine sq_alloc rfl rfl rfl rfl Try.zeroValue74 rfl ?_
  intro b2
  refine sq_plain rfl rfl rfl (w_assign rfl ev_ci) ?_
  refine sq_plain rfl rfl rfl (w_assign rfl (ev_cs' (l := []) rfl)) ?_
  refine sq_nil ?_
  refine awp_seq ?_
  refine awp_region ?_
  refine sq_plain rfl rfl rfl (w_move rfl (ev_tmp rfl)) ?_
  refine sq_plain rfl rfl rfl (w_build (places := #[(0, 1), (1, 1), (2, 1)]) rfl Try.underlying112 Try.zeroValue112 (fun w => by kernel_rfl) rfl (bp_cons (ev_tmp rfl) (as_list _ _) bp_nil) rfl) ?_
  refine sq_box rfl rfl rfl rfl (ev_tmp rfl) ?_
  intro b10
  refine sq_plain rfl rfl rfl (w_assign rfl (ev_tmp rfl)) ?_
  refine sq_nil ?_
  refine awp_seq ?_
  refine awp_region ?_
  refine sq_plain rfl rfl rfl (w_move rfl (ev_tmp rfl)) ?_
  refine sq_callG [0] rfl rfl rfl rfl Try.call119 rfl (curBentAtlas_own _ _ hcode ⟨0, 0⟩ (by decide)) (evl_cons (ev_tmp rfl) evl_nil) rfl ?_
  intro x12 ok12
  have hp12 : x12.1.p ≤ 280 := ok12.1
  have hl12 := atlas_lens ok12.2
  refine sq_alloc rfl rfl rfl rfl Try.zeroValue74 rfl ?_
  intro b6
  refine sq_storeB0 0 rfl rfl rfl (ev_tmp rfl) (ev_tmp rfl) (as_agg _) rfl Try.sizeOf74 rfl ?_
  refine sq_nil ?_
  refine awp_seq ?_
  refine awp_region ?_
  refine sq_plain rfl rfl rfl (w_move rfl (ev_tmp rfl)) ?_
  refine sq_plain rfl rfl rfl (w_fldBn 0 rfl Try.underlying74 rfl Try.sizeOf72 (ev_tmp rfl) rfl) ?_
  refine sq_plain rfl rfl rfl (w_loadB1 0 rfl (ev_tmp rfl) rfl Try.isAgg72 rfl) ?_
  refine sq_plain rfl rfl rfl (w_llen rfl Try.underlying72 (ev_tmp rfl)) ?_
  refine sq_plain rfl rfl rfl (w_addi rfl (ev_tmp rfl) ev_ci (by first | omega | ((try simp only [List.length_map, List.length_take, List.length_cons, List.length_nil, chunks_len, szR] at *); omega) | (have hc2 := hc; simp only [Bool.and_eq_true, Bool.or_eq_true, Bool.or_eq_false_iff, Bool.and_eq_false_iff, Bool.not_eq_true', Bool.not_eq_false', decide_eq_true_eq, decide_eq_false_iff_not, beq_iff_eq, bne_iff_ne, List.length_map, List.length_take] at hc2; omega))) ?_
  refine sq_callG [1] rfl rfl rfl rfl Try.call86 rfl (curPick_own _ _ hcode _ _ (by first | omega | (simp only [List.length_map]; omega)) (by omega)) (evl_cons (ev_tmp rfl) (evl_cons (ev_tmp rfl) evl_nil)) rfl ?_
  intro x18 ok18
  refine sq_plain rfl rfl rfl (w_subi rfl (ev_tmp rfl) ev_ci (by first | omega | ((try simp only [List.length_map, List.length_take, List.length_cons, List.length_nil, chunks_len, szR] at *); omega) | (have hc2 := hc; simp only [Bool.and_eq_true, Bool.or_eq_true, Bool.or_eq_false_iff, Bool.and_eq_false_iff, Bool.not_eq_true', Bool.not_eq_false', decide_eq_true_eq, decide_eq_false_iff_not, beq_iff_eq, bne_iff_ne, List.length_map, List.length_take] at hc2; omega))) ?_
  refine sq_plain rfl rfl rfl (w_assign rfl (ev_tmp rfl)) ?_
  refine sq_nil ?_
  refine awp_seq ?_
  refine awp_seq ?_
  refine awp_region ?_
  refine sq_plain rfl rfl rfl (w_move rfl (ev_tmp rfl)) ?_
  refine sq_callG [0] rfl rfl rfl rfl Try.call109 rfl (curOne_own _ _ hcode _ _ (by omega) (by omega)) (evl_cons (ev_tmp rfl) (evl_cons ev_ci evl_nil)) rfl ?_
  intro x21 ok21
  refine sq_nil ?_
  refine awp_cond (ev_tmp rfl) ?_ ?_
  · intro h21
    refine awp_region ?_
    refine sq_plain rfl rfl rfl (w_assign rfl ev_ci) ?_
    refine sq_nil ?_
    refine awp_seq ?_
    refine AWP.le (le_pick [1] rfl) ?_
    refine awp_region_tree0 _ 8 (.pure 0 (.pure 1 (.pure 2 (.pure 3 (.e1 4 (.e1 5 (.pure 6 (.pure 7 .nil)))))))) (by kernel_rfl) (by kernel_rfl) rfl (invx_take 1) ?_
    refine bt_plain rfl rfl rfl (fun ext => w_loadA 0 rfl (ev_tmp rfl) rfl Try.isAgg74 Try.sizeOf74 rfl) ?_
    refine bt_plain rfl rfl rfl (fun ext => w_move rfl (ev_tmp rfl)) ?_
    refine bt_plain rfl rfl rfl (fun ext => w_move rfl (ev_tmp rfl)) ?_
    refine bt_plain rfl rfl rfl (fun ext => w_bslice rfl Try.underlying52 Try.sizeOf9 Try.zeroValue9 rfl rfl rfl rfl (bp_cons (ev_cs' (l := [97]) rfl) (as_str _) (bp_cons (ev_cs' (l := [98]) rfl) (as_str _) (bp_cons (ev_cs' (l := [99]) rfl) (as_str _) (bp_cons (ev_cs' (l := [109]) rfl) (as_str _) (bp_cons (ev_cs' (l := [110]) rfl) (as_str _) (bp_cons (ev_cs' (l := [122]) rfl) (as_str _) (bp_cons (ev_cs' (l := [114, 47, 49]) rfl) (as_str _) (bp_cons (ev_cs' (l := [105, 47, 120, 47, 49]) rfl) (as_str _) (bp_cons (ev_cs' (l := []) rfl) (as_str _) bp_nil))))))))) rfl rfl) ?_
    refine bt_e1 ?_
    refine eff_s rfl rfl rfl (opE_call [1] rfl Try.call72 rfl (curOf_own _ _ hcode _ ([[97], [98], [99], [109], [110], [122], [114, 47, 49], [105, 47, 120, 47, 49], []] : List Str) (by decide) (by omega)) (evl_cons (ev_tmp rfl) (evl_cons (ev_tmp rfl) evl_nil)) rfl) (fun a _ => (by first | exact invx_mk rfl | exact invx_mk (List.append_assoc _ _ _) | exact invx_all)) ?_
    intro x26 ok26
    refine bt_e1 ?_
    refine eff_s0 rfl rfl rfl (opE_storeB0 1 rfl rfl (ev_tmp rfl) (ev_tmp rfl) (as_agg _) rfl Try.sizeOf74 rfl) (fun a _ => (by first | exact invx_mk rfl | exact invx_mk (List.append_assoc _ _ _) | exact invx_all)) ?_
    intro _ _
    refine bt_plain rfl rfl rfl (fun ext => w_assign rfl (ev_tmp rfl)) ?_
    refine bt_plain rfl rfl rfl (fun ext => w_assign rfl (ev_tmp rfl)) ?_
    refine bt_nil ?_
    refine sq_nil ?_
    refine awp_ret ?_
    (refine retG [] ((x12.2, 0, x26.2)) ?_ rfl (by first | (dsimp only; rfl) | rfl) (resN rfl (by decide) (rv_cons (rv_cell (ys := _) 1 rfl rfl Try.isAgg74 Try.sizeOf74 rfl) (rv_cons (rv_tmp' rfl (by rfl)) (rv_cons (rv_tmp' rfl (by rfl)) rv_nil)))); exact ⟨ok12.2, ok26.2⟩)
  · intro h21
    refine awp_skip ?_
    refine awp_seq ?_
    refine AWP.le (le_pick [1] rfl) ?_
    refine awp_region_tree0 _ 8 (.pure 0 (.pure 1 (.pure 2 (.pure 3 (.e1 4 (.e1 5 (.pure 6 (.pure 7 .nil)))))))) (by kernel_rfl) (by kernel_rfl) rfl (invx_take 1) ?_
    refine bt_plain rfl rfl rfl (fun ext => w_loadA 0 rfl (ev_tmp rfl) rfl Try.isAgg74 Try.sizeOf74 rfl) ?_
    refine bt_plain rfl rfl rfl (fun ext => w_move rfl (ev_tmp rfl)) ?_
    refine bt_plain rfl rfl rfl (fun ext => w_move rfl (ev_tmp rfl)) ?_
    refine bt_plain rfl rfl rfl (fun ext => w_bslice rfl Try.underlying52 Try.sizeOf9 Try.zeroValue9 rfl rfl rfl rfl (bp_cons (ev_cs' (l := [97]) rfl) (as_str _) (bp_cons (ev_cs' (l := [98]) rfl) (as_str _) (bp_cons (ev_cs' (l := [99]) rfl) (as_str _) (bp_cons (ev_cs' (l := [109]) rfl) (as_str _) (bp_cons (ev_cs' (l := [110]) rfl) (as_str _) (bp_cons (ev_cs' (l := [122]) rfl) (as_str _) (bp_cons (ev_cs' (l := [114, 47, 49]) rfl) (as_str _) (bp_cons (ev_cs' (l := [105, 47, 120, 47, 49]) rfl) (as_str _) (bp_cons (ev_cs' (l := []) rfl) (as_str _) bp_nil))))))))) rfl rfl) ?_
    refine bt_e1 ?_
    refine eff_s rfl rfl rfl (opE_call [1] rfl Try.call72 rfl (curOf_own _ _ hcode _ ([[97], [98], [99], [109], [110], [122], [114, 47, 49], [105, 47, 120, 47, 49], []] : List Str) (by decide) (by omega)) (evl_cons (ev_tmp rfl) (evl_cons (ev_tmp rfl) evl_nil)) rfl) (fun a _ => (by first | exact invx_mk rfl | exact invx_mk (List.append_assoc _ _ _) | exact invx_all)) ?_
    intro x26 ok26
    refine bt_e1 ?_
    refine eff_s0 rfl rfl rfl (opE_storeB0 1 rfl rfl (ev_tmp rfl) (ev_tmp rfl) (as_agg _) rfl Try.sizeOf74 rfl) (fun a _ => (by first | exact invx_mk rfl | exact invx_mk (List.append_assoc _ _ _) | exact invx_all)) ?_
    intro _ _
    refine bt_plain rfl rfl rfl (fun ext => w_assign rfl (ev_tmp rfl)) ?_
    refine bt_plain rfl rfl rfl (fun ext => w_assign rfl (ev_tmp rfl)) ?_
    refine bt_nil ?_
    refine sq_nil ?_
    refine awp_ret ?_
    (refine retG [] ((x12.2, x18.2 - 1, x26.2)) ?_ rfl (by first | (dsimp only; rfl) | rfl) (resN rfl (by decide) (rv_cons (rv_cell (ys := _) 1 rfl rfl Try.isAgg74 Try.sizeOf74 rfl) (rv_cons (rv_tmp' rfl (by rfl)) (rv_cons (rv_tmp' rfl (by rfl)) rv_nil)))); exact ⟨ok12.2, ok26.2⟩)
theorem drawIsNext_own (code : List Int) (hcode : ByteL code) : GSpec Try.prog 52 [bytesI code] [] (fun x : TPlaces × TPlaces => x.1.size ≤ 1000 ∧ x.2.size ≤ 1000) (fun x => []) (fun x => AV.tup [AV.agg x.1.cs, AV.agg x.2.cs]) := by
  refine gspec_of_awp Try.func52 rfl Try.ntmps52 rfl ?_
  refine awp_seq ?_
  refine awp_region ?_
  refine sq_alloc rfl rfl rfl rfl Try.zeroValue57 rfl ?_
  intro b2
  refine sq_alloc rfl rfl rfl rfl Try.zeroValue57 rfl ?_
  intro b3
  refine sq_nil ?_
  refine awp_seq ?_
  refine awp_region ?_
  refine sq_plain rfl rfl rfl (w_move rfl (ev_tmp rfl)) ?_
  refine sq_plain rfl rfl rfl (w_build (places := #[(0, 1), (1, 1), (2, 1)]) rfl Try.underlying112 Try.zeroValue112 (fun w => by kernel_rfl) rfl (bp_cons (ev_tmp rfl) (as_list _ _) bp_nil) rfl) ?_
  refine sq_box rfl rfl rfl rfl (ev_tmp rfl) ?_
  intro b11
  refine sq_plain rfl rfl rfl (w_assign rfl (ev_tmp rfl)) ?_
  refine sq_nil ?_
  refine awp_seq ?_
  refine awp_region ?_
  refine sq_plain rfl rfl rfl (w_move rfl (ev_tmp rfl)) ?_
  refine sq_callG [0] rfl rfl rfl rfl Try.call104 rfl (curBentPlacesS_own _ _ hcode ⟨0, 0⟩ (by decide)) (evl_cons (ev_tmp rfl) evl_nil) rfl ?_
  intro x13 ok13
  have hp13 : x13.1.p ≤ 50 := ok13.1
  refine sq_alloc rfl rfl rfl rfl Try.zeroValue57 rfl ?_
  intro b5
  refine sq_storeB0 0 rfl rfl rfl (ev_tmp rfl) (ev_tmp rfl) (as_agg _) rfl Try.sizeOf57 rfl ?_
  refine sq_nil ?_
  refine awp_seq ?_
  refine awp_region ?_
  refine sq_plain rfl rfl rfl (w_loadA 0 rfl (ev_tmp rfl) rfl Try.isAgg57 Try.sizeOf57 rfl) ?_
  refine sq_alloc rfl rfl rfl rfl Try.zeroValue57 rfl ?_
  intro b6
  refine sq_storeB0 0 rfl rfl rfl (ev_tmp rfl) (ev_tmp rfl) (as_agg _) rfl Try.sizeOf57 rfl ?_
  refine sq_nil ?_
  refine awp_seq ?_
  refine awp_seq ?_
  refine awp_region ?_
  refine sq_plain rfl rfl rfl (w_fldBn 2 rfl Try.underlying57 rfl Try.sizeOf55 (ev_tmp rfl) rfl) ?_
  refine sq_plain rfl rfl rfl (w_loadB1 1 rfl (ev_tmp rfl) rfl Try.isAgg55 rfl) ?_
  refine sq_plain rfl rfl rfl (w_llen rfl Try.underlying55 (ev_tmp rfl)) ?_
  refine sq_plain rfl rfl rfl (w_gtr rfl (ev_tmp rfl) ev_ci) ?_
  refine sq_nil ?_
  refine awp_cond (ev_tmp rfl) ?_ ?_
  · intro h18
    have k18 := of_decide_eq_true h18; try simp only [List.length_map] at k18
    refine awp_seq ?_
    refine awp_region ?_
    refine sq_plain rfl rfl rfl (w_move rfl (ev_tmp rfl)) ?_
    refine sq_plain rfl rfl rfl (w_loadA 1 rfl (ev_tmp rfl) rfl Try.isAgg57 Try.sizeOf57 rfl) ?_
    refine sq_callG [2] rfl rfl rfl rfl Try.call128 rfl (curNextPlaces_own _ _ hcode _ x13.2 (by omega) (by omega)) (evl_cons (ev_tmp rfl) (evl_cons (ev_tmp rfl) evl_nil)) rfl ?_
    intro x22 ok22
    refine sq_plain rfl rfl rfl (w_move rfl (ev_tmp rfl)) ?_
    refine sq_plain rfl rfl rfl (w_extract rfl (ev_tmp rfl) rfl) ?_
    refine sq_plain rfl rfl rfl (w_extract rfl (ev_tmp rfl) rfl) ?_
    refine sq_alloc rfl rfl rfl rfl Try.zeroValue57 rfl ?_
    intro b7
    refine sq_storeB0 0 rfl rfl rfl (ev_tmp rfl) (ev_tmp rfl) (as_agg _) rfl Try.sizeOf57 rfl ?_
    refine sq_plain rfl rfl rfl (w_assign rfl (ev_tmp rfl)) ?_
    refine sq_nil ?_
    refine awp_seq ?_
    refine awp_region ?_
    refine sq_plain rfl rfl rfl (w_move rfl (ev_tmp rfl)) ?_
    refine sq_nil ?_
    refine awp_cond (ev_tmp rfl) ?_ ?_
    · intro h25
      refine awp_region ?_
      refine sq_plain rfl rfl rfl (w_loadA 0 rfl (ev_tmp rfl) rfl Try.isAgg57 Try.sizeOf57 rfl) ?_
      refine sq_storeB0 2 rfl rfl rfl (ev_tmp rfl) (ev_tmp rfl) (as_agg _) rfl Try.sizeOf57 rfl ?_
      refine sq_nil ?_
      refine awp_seq ?_
      refine awp_seq ?_
      refine awp_region ?_
      refine sq_plain rfl rfl rfl (w_move rfl (ev_tmp rfl)) ?_
      refine sq_callG [1] rfl rfl rfl rfl Try.call109 rfl (curOne_own _ _ hcode _ _ (by omega) (by omega)) (evl_cons (ev_tmp rfl) (evl_cons ev_ci evl_nil)) rfl ?_
      intro x28 ok28
      refine sq_nil ?_
      refine awp_cond (ev_tmp rfl) ?_ ?_
      · intro h28
        refine awp_region ?_
        refine sq_plain rfl rfl rfl (w_move rfl (ev_tmp rfl)) ?_
        refine sq_callG [0] rfl rfl rfl rfl Try.call104 rfl (curBentPlacesS_own _ _ hcode _ (by omega)) (evl_cons (ev_tmp rfl) evl_nil) rfl ?_
        intro x30 ok30
        refine sq_storeB0 2 rfl rfl rfl (ev_tmp rfl) (ev_tmp rfl) (as_agg _) rfl Try.sizeOf57 rfl ?_
        refine sq_nil ?_
        refine awp_seq ?_
        refine AWP.le (le_pick [3, 2] rfl) ?_
        refine awp_region_tree _ 3 (.pure 0 (.pure 1 (.e1 2 .nil))) (by kernel_rfl) (by kernel_rfl) rfl (invx_take 2) ?_
        refine bt_plain rfl rfl rfl (fun ext => w_loadA 0 rfl (ev_tmp rfl) rfl Try.isAgg57 Try.sizeOf57 rfl) ?_
        refine bt_plain rfl rfl rfl (fun ext => w_loadA 1 rfl (ev_tmp rfl) rfl Try.isAgg57 Try.sizeOf57 rfl) ?_
        refine bt_e1 ?_
        refine eff_s0 rfl rfl rfl (opE_storeB0 5 rfl rfl (ev_tmp rfl) (ev_tmp rfl) (as_agg _) rfl Try.sizeOf57 rfl) (fun a _ => (by first | exact invx_mk rfl | exact invx_mk (List.append_assoc _ _ _) | exact invx_all)) ?_
        intro _ _
        refine bt_nil ?_
        refine sq_storeB0 4 rfl rfl rfl (ev_tmp rfl) (ev_tmp rfl) (as_agg _) rfl Try.sizeOf57 rfl ?_
        refine sq_nil ?_
        refine awp_ret ?_
        first | (refine retG [] ((x13.2, x13.2)) ?_ rfl (by first | (dsimp only; rfl) | rfl) (resN rfl (by decide) (rv_cons (rv_cell (ys := _) 5 rfl rfl Try.isAgg57 Try.sizeOf57 rfl) (rv_cons (rv_cell (ys := _) 4 rfl rfl Try.isAgg57 Try.sizeOf57 rfl) rv_nil))); (dsimp only; exact ⟨by omega, by omega⟩)) | (refine retG [] ((x13.2, x22.2.1)) ?_ rfl (by first | (dsimp only; rfl) | rfl) (resN rfl (by decide) (rv_cons (rv_cell (ys := _) 5 rfl rfl Try.isAgg57 Try.sizeOf57 rfl) (rv_cons (rv_cell (ys := _) 4 rfl rfl Try.isAgg57 Try.sizeOf57 rfl) rv_nil))); (dsimp only; exact ⟨by omega, by omega⟩)) | (refine retG [] ((x13.2, x30.2)) ?_ rfl (by first | (dsimp only; rfl) | rfl) (resN rfl (by decide) (rv_cons (rv_cell (ys := _) 5 rfl rfl Try.isAgg57 Try.sizeOf57 rfl) (rv_cons (rv_cell (ys := _) 4 rfl rfl Try.isAgg57 Try.sizeOf57 rfl) rv_nil))); (dsimp only; exact ⟨by omega, by omega⟩))
      · intro h28
        refine awp_skip ?_
        refine awp_seq ?_
        refine AWP.le (le_pick [3, 2] rfl) ?_
        refine awp_region_tree _ 3 (.pure 0 (.pure 1 (.e1 2 .nil))) (by kernel_rfl) (by kernel_rfl) rfl (invx_take 2) ?_
        refine bt_plain rfl rfl rfl (fun ext => w_loadA 0 rfl (ev_tmp rfl) rfl Try.isAgg57 Try.sizeOf57 rfl) ?_
        refine bt_plain rfl rfl rfl (fun ext => w_loadA 1 rfl (ev_tmp rfl) rfl Try.isAgg57 Try.sizeOf57 rfl) ?_
        refine bt_e1 ?_
        refine eff_s0 rfl rfl rfl (opE_storeB0 5 rfl rfl (ev_tmp rfl) (ev_tmp rfl) (as_agg _) rfl Try.sizeOf57 rfl) (fun a _ => (by first | exact invx_mk rfl | exact invx_mk (List.append_assoc _ _ _) | exact invx_all)) ?_
        intro _ _
        refine bt_nil ?_
        refine sq_storeB0 4 rfl rfl rfl (ev_tmp rfl) (ev_tmp rfl) (as_agg _) rfl Try.sizeOf57 rfl ?_
        refine sq_nil ?_
        refine awp_ret ?_
        first | (refine retG [] ((x13.2, x13.2)) ?_ rfl (by first | (dsimp only; rfl) | rfl) (resN rfl (by decide) (rv_cons (rv_cell (ys := _) 5 rfl rfl Try.isAgg57 Try.sizeOf57 rfl) (rv_cons (rv_cell (ys := _) 4 rfl rfl Try.isAgg57 Try.sizeOf57 rfl) rv_nil))); (dsimp only; exact ⟨by omega, by omega⟩)) | (refine retG [] ((x13.2, x22.2.1)) ?_ rfl (by first | (dsimp only; rfl) | rfl) (resN rfl (by decide) (rv_cons (rv_cell (ys := _) 5 rfl rfl Try.isAgg57 Try.sizeOf57 rfl) (rv_cons (rv_cell (ys := _) 4 rfl rfl Try.isAgg57 Try.sizeOf57 rfl) rv_nil))); (dsimp only; exact ⟨by omega, by omega⟩)) | (refine retG [] ((x13.2, x30.2)) ?_ rfl (by first | (dsimp only; rfl) | rfl) (resN rfl (by decide) (rv_cons (rv_cell (ys := _) 5 rfl rfl Try.isAgg57 Try.sizeOf57 rfl) (rv_cons (rv_cell (ys := _) 4 rfl rfl Try.isAgg57 Try.sizeOf57 rfl) rv_nil))); (dsimp only; exact ⟨by omega, by omega⟩))
    · intro h25
      refine awp_skip ?_
      refine awp_seq ?_
      refine awp_seq ?_
      refine awp_region ?_
      refine sq_plain rfl rfl rfl (w_move rfl (ev_tmp rfl)) ?_
      refine sq_callG [1] rfl rfl rfl rfl Try.call109 rfl (curOne_own _ _ hcode _ _ (by omega) (by omega)) (evl_cons (ev_tmp rfl) (evl_cons ev_ci evl_nil)) rfl ?_
      intro x28 ok28
      refine sq_nil ?_
      refine awp_cond (ev_tmp rfl) ?_ ?_
      · intro h28
        refine awp_region ?_
        refine sq_plain rfl rfl rfl (w_move rfl (ev_tmp rfl)) ?_
        refine sq_callG [0] rfl rfl rfl rfl Try.call104 rfl (curBentPlacesS_own _ _ hcode _ (by omega)) (evl_cons (ev_tmp rfl) evl_nil) rfl ?_
        intro x30 ok30
        refine sq_storeB0 2 rfl rfl rfl (ev_tmp rfl) (ev_tmp rfl) (as_agg _) rfl Try.sizeOf57 rfl ?_
        refine sq_nil ?_
        refine awp_seq ?_
        refine AWP.le (le_pick [3, 2] rfl) ?_
        refine awp_region_tree _ 3 (.pure 0 (.pure 1 (.e1 2 .nil))) (by kernel_rfl) (by kernel_rfl) rfl (invx_take 2) ?_
        refine bt_plain rfl rfl rfl (fun ext => w_loadA 0 rfl (ev_tmp rfl) rfl Try.isAgg57 Try.sizeOf57 rfl) ?_
        refine bt_plain rfl rfl rfl (fun ext => w_loadA 1 rfl (ev_tmp rfl) rfl Try.isAgg57 Try.sizeOf57 rfl) ?_
        refine bt_e1 ?_
        refine eff_s0 rfl rfl rfl (opE_storeB0 5 rfl rfl (ev_tmp rfl) (ev_tmp rfl) (as_agg _) rfl Try.sizeOf57 rfl) (fun a _ => (by first | exact invx_mk rfl | exact invx_mk (List.append_assoc _ _ _) | exact invx_all)) ?_
        intro _ _
        refine bt_nil ?_
        refine sq_storeB0 4 rfl rfl rfl (ev_tmp rfl) (ev_tmp rfl) (as_agg _) rfl Try.sizeOf57 rfl ?_
        refine sq_nil ?_
        refine awp_ret ?_
        first | (refine retG [] ((x13.2, x13.2)) ?_ rfl (by first | (dsimp only; rfl) | rfl) (resN rfl (by decide) (rv_cons (rv_cell (ys := _) 5 rfl rfl Try.isAgg57 Try.sizeOf57 rfl) (rv_cons (rv_cell (ys := _) 4 rfl rfl Try.isAgg57 Try.sizeOf57 rfl) rv_nil))); (dsimp only; exact ⟨by omega, by omega⟩)) | (refine retG [] ((x13.2, x22.2.1)) ?_ rfl (by first | (dsimp only; rfl) | rfl) (resN rfl (by decide) (rv_cons (rv_cell (ys := _) 5 rfl rfl Try.isAgg57 Try.sizeOf57 rfl) (rv_cons (rv_cell (ys := _) 4 rfl rfl Try.isAgg57 Try.sizeOf57 rfl) rv_nil))); (dsimp only; exact ⟨by omega, by omega⟩)) | (refine retG [] ((x13.2, x30.2)) ?_ rfl (by first | (dsimp only; rfl) | rfl) (resN rfl (by decide) (rv_cons (rv_cell (ys := _) 5 rfl rfl Try.isAgg57 Try.sizeOf57 rfl) (rv_cons (rv_cell (ys := _) 4 rfl rfl Try.isAgg57 Try.sizeOf57 rfl) rv_nil))); (dsimp only; exact ⟨by omega, by omega⟩))
      · intro h28
        refine awp_skip ?_
        refine awp_seq ?_
        refine AWP.le (le_pick [3, 2] rfl) ?_
        refine awp_region_tree _ 3 (.pure 0 (.pure 1 (.e1 2 .nil))) (by kernel_rfl) (by kernel_rfl) rfl (invx_take 2) ?_
        refine bt_plain rfl rfl rfl (fun ext => w_loadA 0 rfl (ev_tmp rfl) rfl Try.isAgg57 Try.sizeOf57 rfl) ?_
        refine bt_plain rfl rfl rfl (fun ext => w_loadA 1 rfl (ev_tmp rfl) rfl Try.isAgg57 Try.sizeOf57 rfl) ?_
        refine bt_e1 ?_
        refine eff_s0 rfl rfl rfl (opE_storeB0 5 rfl rfl (ev_tmp rfl) (ev_tmp rfl) (as_agg _) rfl Try.sizeOf57 rfl) (fun a _ => (by first | exact invx_mk rfl | exact invx_mk (List.append_assoc _ _ _) | exact invx_all)) ?_
        intro _ _
        refine bt_nil ?_
        refine sq_storeB0 4 rfl rfl rfl (ev_tmp rfl) (ev_tmp rfl) (as_agg _) rfl Try.sizeOf57 rfl ?_
        refine sq_nil ?_
        refine awp_ret ?_
        first | (refine retG [] ((x13.2, x13.2)) ?_ rfl (by first | (dsimp only; rfl) | rfl) (resN rfl (by decide) (rv_cons (rv_cell (ys := _) 5 rfl rfl Try.isAgg57 Try.sizeOf57 rfl) (rv_cons (rv_cell (ys := _) 4 rfl rfl Try.isAgg57 Try.sizeOf57 rfl) rv_nil))); (dsimp only; exact ⟨by omega, by omega⟩)) | (refine retG [] ((x13.2, x22.2.1)) ?_ rfl (by first | (dsimp only; rfl) | rfl) (resN rfl (by decide) (rv_cons (rv_cell (ys := _) 5 rfl rfl Try.isAgg57 Try.sizeOf57 rfl) (rv_cons (rv_cell (ys := _) 4 rfl rfl Try.isAgg57 Try.sizeOf57 rfl) rv_nil))); (dsimp only; exact ⟨by omega, by omega⟩)) | (refine retG [] ((x13.2, x30.2)) ?_ rfl (by first | (dsimp only; rfl) | rfl) (resN rfl (by decide) (rv_cons (rv_cell (ys := _) 5 rfl rfl Try.isAgg57 Try.sizeOf57 rfl) (rv_cons (rv_cell (ys := _) 4 rfl rfl Try.isAgg57 Try.sizeOf57 rfl) rv_nil))); (dsimp only; exact ⟨by omega, by omega⟩))
  · intro h18
    have k18 := of_decide_eq_false h18; try simp only [List.length_map] at k18
    refine awp_skip ?_
    refine awp_seq ?_
    refine awp_seq ?_
    refine awp_region ?_
    refine sq_plain rfl rfl rfl (w_move rfl (ev_tmp rfl)) ?_
    refine sq_callG [2] rfl rfl rfl rfl Try.call109 rfl (curOne_own _ _ hcode _ _ (by omega) (by omega)) (evl_cons (ev_tmp rfl) (evl_cons ev_ci evl_nil)) rfl ?_
    intro x28 ok28
    refine sq_nil ?_
    refine awp_cond (ev_tmp rfl) ?_ ?_
    · intro h28
      refine awp_region ?_
      refine sq_plain rfl rfl rfl (w_move rfl (ev_tmp rfl)) ?_
      refine sq_callG [0] rfl rfl rfl rfl Try.call104 rfl (curBentPlacesS_own _ _ hcode _ (by omega)) (evl_cons (ev_tmp rfl) evl_nil) rfl ?_
      intro x30 ok30
      refine sq_storeB0 1 rfl rfl rfl (ev_tmp rfl) (ev_tmp rfl) (as_agg _) rfl Try.sizeOf57 rfl ?_
      refine sq_nil ?_
      refine awp_seq ?_
      refine AWP.le (le_pick [2, 1] rfl) ?_
      refine awp_region_tree _ 3 (.pure 0 (.pure 1 (.e1 2 .nil))) (by kernel_rfl) (by kernel_rfl) rfl (invx_take 2) ?_
      refine bt_plain rfl rfl rfl (fun ext => w_loadA 0 rfl (ev_tmp rfl) rfl Try.isAgg57 Try.sizeOf57 rfl) ?_
      refine bt_plain rfl rfl rfl (fun ext => w_loadA 1 rfl (ev_tmp rfl) rfl Try.isAgg57 Try.sizeOf57 rfl) ?_
      refine bt_e1 ?_
      refine eff_s0 rfl rfl rfl (opE_storeB0 4 rfl rfl (ev_tmp rfl) (ev_tmp rfl) (as_agg _) rfl Try.sizeOf57 rfl) (fun a _ => (by first | exact invx_mk rfl | exact invx_mk (List.append_assoc _ _ _) | exact invx_all)) ?_
      intro _ _
      refine bt_nil ?_
      refine sq_storeB0 3 rfl rfl rfl (ev_tmp rfl) (ev_tmp rfl) (as_agg _) rfl Try.sizeOf57 rfl ?_
      refine sq_nil ?_
      refine awp_ret ?_
      first | (refine retG [] ((x13.2, x13.2)) ?_ rfl (by first | (dsimp only; rfl) | rfl) (resN rfl (by decide) (rv_cons (rv_cell (ys := _) 4 rfl rfl Try.isAgg57 Try.sizeOf57 rfl) (rv_cons (rv_cell (ys := _) 3 rfl rfl Try.isAgg57 Try.sizeOf57 rfl) rv_nil))); (dsimp only; exact ⟨by omega, by omega⟩)) | (refine retG [] ((x13.2, x22.2.1)) ?_ rfl (by first | (dsimp only; rfl) | rfl) (resN rfl (by decide) (rv_cons (rv_cell (ys := _) 4 rfl rfl Try.isAgg57 Try.sizeOf57 rfl) (rv_cons (rv_cell (ys := _) 3 rfl rfl Try.isAgg57 Try.sizeOf57 rfl) rv_nil))); (dsimp only; exact ⟨by omega, by omega⟩)) | (refine retG [] ((x13.2, x30.2)) ?_ rfl (by first | (dsimp only; rfl) | rfl) (resN rfl (by decide) (rv_cons (rv_cell (ys := _) 4 rfl rfl Try.isAgg57 Try.sizeOf57 rfl) (rv_cons (rv_cell (ys := _) 3 rfl rfl Try.isAgg57 Try.sizeOf57 rfl) rv_nil))); (dsimp only; exact ⟨by omega, by omega⟩))
    · intro h28
      refine awp_skip ?_
      refine awp_seq ?_
      refine AWP.le (le_pick [2, 1] rfl) ?_
      refine awp_region_tree _ 3 (.pure 0 (.pure 1 (.e1 2 .nil))) (by kernel_rfl) (by kernel_rfl) rfl (invx_take 2) ?_
      refine bt_plain rfl rfl rfl (fun ext => w_loadA 0 rfl (ev_tmp rfl) rfl Try.isAgg57 Try.sizeOf57 rfl) ?_
      refine bt_plain rfl rfl rfl (fun ext => w_loadA 1 rfl (ev_tmp rfl) rfl Try.isAgg57 Try.sizeOf57 rfl) ?_
      refine bt_e1 ?_
      refine eff_s0 rfl rfl rfl (opE_storeB0 4 rfl rfl (ev_tmp rfl) (ev_tmp rfl) (as_agg _) rfl Try.sizeOf57 rfl) (fun a _ => (by first | exact invx_mk rfl | exact invx_mk (List.append_assoc _ _ _) | exact invx_all)) ?_
      intro _ _
      refine bt_nil ?_
      refine sq_storeB0 3 rfl rfl rfl (ev_tmp rfl) (ev_tmp rfl) (as_agg _) rfl Try.sizeOf57 rfl ?_
      refine sq_nil ?_
      refine awp_ret ?_
      first | (refine retG [] ((x13.2, x13.2)) ?_ rfl (by first | (dsimp only; rfl) | rfl) (resN rfl (by decide) (rv_cons (rv_cell (ys := _) 4 rfl rfl Try.isAgg57 Try.sizeOf57 rfl) (rv_cons (rv_cell (ys := _) 3 rfl rfl Try.isAgg57 Try.sizeOf57 rfl) rv_nil))); (dsimp only; exact ⟨by omega, by omega⟩)) | (refine retG [] ((x13.2, x22.2.1)) ?_ rfl (by first | (dsimp only; rfl) | rfl) (resN rfl (by decide) (rv_cons (rv_cell (ys := _) 4 rfl rfl Try.isAgg57 Try.sizeOf57 rfl) (rv_cons (rv_cell (ys := _) 3 rfl rfl Try.isAgg57 Try.sizeOf57 rfl) rv_nil))); (dsimp only; exact ⟨by omega, by omega⟩)) | (refine retG [] ((x13.2, x30.2)) ?_ rfl (by first | (dsimp only; rfl) | rfl) (resN rfl (by decide) (rv_cons (rv_cell (ys := _) 4 rfl rfl Try.isAgg57 Try.sizeOf57 rfl) (rv_cons (rv_cell (ys := _) 3 rfl rfl Try.isAgg57 Try.sizeOf57 rfl) rv_nil))); (dsimp only; exact ⟨by omega, by omega⟩))
theorem last_get {a : TAtlas} (h : 0 < a.Maps.length) : (a.Maps.map TPlaces.cs)[((a.Maps.length : Int) - 1).toNat]? = some (lastM a).cs := by
  rw [show ((a.Maps.length : Int) - 1).toNat = a.Maps.length - 1 by omega, List.getElem?_map]
  unfold lastM
  rw [List.getD_eq_getElem?_getD, List.getElem?_eq_getElem (by omega)]; rfl
theorem last_size {a : TAtlas} {m : Nat} (h : a.size ≤ m) : (lastM a).size ≤ m := by
  unfold lastM
  rw [List.getD_eq_getElem?_getD]
  cases hx : a.Maps[a.Maps.length - 1]? with
  | none => exact Nat.zero_le _
  | some x => exact map_size h hx
theorem drawAddMap_own (code : List Int) (hcode : ByteL code) : GSpec Try.prog 46 [bytesI code] [] (fun x : TAtlas × TPlaces => x.1.size ≤ 2000 ∧ x.2.size ≤ 3000) (fun x => []) (fun x => AV.tup [AV.agg x.1.cs, AV.agg x.2.cs]) := by
  refine gspec_of_awp Try.func46 rfl Try.ntmps46 rfl ?_
  refine awp_seq ?_
  refine awp_region ?_
  refine sq_alloc rfl rfl rfl rfl Try.zeroValue74 rfl ?_
  intro b2
  refine sq_alloc rfl rfl rfl rfl Try.zeroValue57 rfl ?_
  intro b3
  refine sq_nil ?_
  refine awp_seq ?_
  refine awp_region ?_
  refine sq_plain rfl rfl rfl (w_move rfl (ev_tmp rfl)) ?_
  refine sq_plain rfl rfl rfl (w_build (places := #[(0, 1), (1, 1), (2, 1)]) rfl Try.underlying112 Try.zeroValue112 (fun w => by kernel_rfl) rfl (bp_cons (ev_tmp rfl) (as_list _ _) bp_nil) rfl) ?_
  refine sq_box rfl rfl rfl rfl (ev_tmp rfl) ?_
  intro b11
  refine sq_plain rfl rfl rfl (w_assign rfl (ev_tmp rfl)) ?_
  refine sq_nil ?_
  refine awp_seq ?_
  refine awp_region ?_
  refine sq_plain rfl rfl rfl (w_move rfl (ev_tmp rfl)) ?_
  refine sq_callG [0] rfl rfl rfl rfl Try.call119 rfl (curBentAtlas_own _ _ hcode ⟨0, 0⟩ (by decide)) (evl_cons (ev_tmp rfl) evl_nil) rfl ?_
  intro x13 ok13
  have hp13 : x13.1.p ≤ 280 := ok13.1
  have hl13 := atlas_lens ok13.2
  have hs13 := last_size ok13.2
  refine sq_alloc rfl rfl rfl rfl Try.zeroValue74 rfl ?_
  intro b5
  refine sq_storeB0 0 rfl rfl rfl (ev_tmp rfl) (ev_tmp rfl) (as_agg _) rfl Try.sizeOf74 rfl ?_
  refine sq_nil ?_
  refine awp_seq ?_
  refine awp_region ?_
  refine sq_plain rfl rfl rfl (w_move rfl (ev_tmp rfl)) ?_
  refine sq_callG [1] rfl rfl rfl rfl Try.call104 rfl (curBentPlacesS_own _ _ hcode _ (by omega)) (evl_cons (ev_tmp rfl) evl_nil) rfl ?_
  intro x15 ok15
  refine sq_alloc rfl rfl rfl rfl Try.zeroValue57 rfl ?_
  intro b6
  refine sq_storeB0 0 rfl rfl rfl (ev_tmp rfl) (ev_tmp rfl) (as_agg _) rfl Try.sizeOf57 rfl ?_
  refine sq_nil ?_
  refine awp_seq ?_
  refine awp_seq ?_
  refine awp_region ?_
  refine sq_plain rfl rfl rfl (w_fldBn 0 rfl Try.underlying74 rfl Try.sizeOf72 (ev_tmp rfl) rfl) ?_
  refine sq_plain rfl rfl rfl (w_loadB1 2 rfl (ev_tmp rfl) rfl Try.isAgg72 rfl) ?_
  refine sq_plain rfl rfl rfl (w_llen rfl Try.underlying72 (ev_tmp rfl)) ?_
  refine sq_plain rfl rfl rfl (w_gtr rfl (ev_tmp rfl) ev_ci) ?_
  refine sq_plain rfl rfl rfl (w_move rfl (ev_tmp rfl)) ?_
  refine sq_grd rfl rfl (guard_t rfl rfl rfl) (fun hc => w_fldBn 0 rfl Try.underlying74 rfl Try.sizeOf72 (ev_tmp rfl) rfl) ?_
  refine sq_grd rfl rfl (guard_t rfl rfl rfl) (fun hc => w_loadB1 2 rfl (ev_whn rfl hc) rfl Try.isAgg72 rfl) ?_
  refine sq_grd rfl rfl (guard_t rfl rfl rfl) (fun hc => w_fldBn 0 rfl Try.underlying74 rfl Try.sizeOf72 (ev_tmp rfl) rfl) ?_
  refine sq_grd rfl rfl (guard_t rfl rfl rfl) (fun hc => w_loadB1 2 rfl (ev_whn rfl hc) rfl Try.isAgg72 rfl) ?_
  refine sq_grd rfl rfl (guard_t rfl rfl rfl) (fun hc => w_llen rfl Try.underlying72 (ev_whn rfl hc)) ?_
  refine sq_grd rfl rfl (guard_t rfl rfl rfl) (fun hc => w_subi rfl (ev_whn rfl hc) ev_ci (by first | omega | ((try simp only [List.length_map, List.length_take, List.length_cons, List.length_nil, chunks_len, szR] at *); omega) | (have hc2 := hc; simp only [Bool.and_eq_true, Bool.or_eq_true, Bool.or_eq_false_iff, Bool.and_eq_false_iff, Bool.not_eq_true', Bool.not_eq_false', decide_eq_true_eq, decide_eq_false_iff_not, beq_iff_eq, bne_iff_ne, List.length_map, List.length_take] at hc2; omega))) ?_
  refine sq_grd rfl rfl (guard_t rfl rfl rfl) (fun hc => w_idx rfl Try.underlying72 Try.sizeOf57 (ev_whn rfl hc) (ev_whn rfl hc) (by have h9 := of_decide_eq_true hc; simp only [List.length_map] at h9 ⊢; omega) (by have h9 := of_decide_eq_true hc; simp only [List.length_map] at h9 ⊢; exact last_get (by omega))) ?_
  refine sq_grd rfl rfl (guard_t rfl rfl rfl) (fun hc => w_fldE rfl Try.underlying57 rfl Try.sizeOf55 (ev_whn rfl hc) rfl) ?_
  refine sq_grd rfl rfl (guard_t rfl rfl rfl) (fun hc => w_loadE1 rfl (ev_whn rfl hc) Try.isAgg55 rfl) ?_
  refine sq_grd rfl rfl (guard_t rfl rfl rfl) (fun hc => w_llen rfl Try.underlying55 (ev_whn rfl hc)) ?_
  refine sq_grd rfl rfl (guard_t rfl rfl rfl) (fun hc => w_gtr rfl (ev_whn rfl hc) ev_ci) ?_
  refine sq_plain rfl rfl rfl (w_and rfl (ev_tmp rfl) (evif_w rfl)) ?_
  refine sq_plain rfl rfl rfl (w_move rfl (ev_tmp rfl)) ?_
  refine sq_grd rfl rfl (guard_t rfl rfl rfl) (fun hc => w_move rfl (ev_tmp rfl)) ?_
  refine sq_gcase rfl rfl (guard_t rfl rfl rfl) ?_ ?_
  · intro gh35
    refine sq_callG [1] rfl rfl rfl rfl Try.call109 rfl (curOne_own _ _ hcode _ _ (by omega) (by omega)) (evl_cons (ev_whn rfl gh35) (evl_cons ev_ci evl_nil)) rfl ?_
    intro x35 ok35
    refine sq_grd rfl rfl (guard_t rfl rfl rfl) (fun hc => w_not rfl (ev_tmp rfl)) ?_
    refine sq_plain rfl rfl rfl (w_and rfl (ev_tmp rfl) (evif_w rfl)) ?_
    refine sq_nil ?_
    refine awp_cond (ev_tmp rfl) ?_ ?_
    · intro h37
      have hlen : 0 < x13.2.Maps.length := by (cases hm : x13.2.Maps with | nil => (rw [hm] at h37; simp at h37) | cons y t => simp)
      refine awp_seq ?_
      refine awp_region ?_
      refine sq_plain rfl rfl rfl (w_move rfl (ev_tmp rfl)) ?_
      refine sq_plain rfl rfl rfl (w_fldBn 0 rfl Try.underlying74 rfl Try.sizeOf72 (ev_tmp rfl) rfl) ?_
      refine sq_plain rfl rfl rfl (w_loadB1 2 rfl (ev_tmp rfl) rfl Try.isAgg72 rfl) ?_
      refine sq_plain rfl rfl rfl (w_fldBn 0 rfl Try.underlying74 rfl Try.sizeOf72 (ev_tmp rfl) rfl) ?_
      refine sq_plain rfl rfl rfl (w_loadB1 2 rfl (ev_tmp rfl) rfl Try.isAgg72 rfl) ?_
      refine sq_plain rfl rfl rfl (w_llen rfl Try.underlying72 (ev_tmp rfl)) ?_
      refine sq_plain rfl rfl rfl (w_subi rfl (ev_tmp rfl) ev_ci (by first | omega | ((try simp only [List.length_map, List.length_take, List.length_cons, List.length_nil, chunks_len, szR] at *); omega) | (have hc2 := hc; simp only [Bool.and_eq_true, Bool.or_eq_true, Bool.or_eq_false_iff, Bool.and_eq_false_iff, Bool.not_eq_true', Bool.not_eq_false', decide_eq_true_eq, decide_eq_false_iff_not, beq_iff_eq, bne_iff_ne, List.length_map, List.length_take] at hc2; omega))) ?_
      refine sq_plain rfl rfl rfl (w_idx rfl Try.underlying72 Try.sizeOf57 (ev_tmp rfl) (ev_tmp rfl) (by simp only [List.length_map]; omega) (by simp only [List.length_map]; exact last_get hlen)) ?_
      refine sq_plain rfl rfl rfl (w_loadE rfl (ev_tmp rfl) Try.isAgg57 Try.sizeOf57) ?_
      refine sq_callG [0] rfl rfl rfl rfl Try.call128 rfl (curNextPlaces_own _ _ hcode _ (lastM x13.2) (by omega) (by omega)) (evl_cons (ev_tmp rfl) (evl_cons (ev_tmp rfl) evl_nil)) rfl ?_
      intro x48 ok48
      refine sq_plain rfl rfl rfl (w_move rfl (ev_tmp rfl)) ?_
      refine sq_plain rfl rfl rfl (w_extract rfl (ev_tmp rfl) rfl) ?_
      refine sq_plain rfl rfl rfl (w_extract rfl (ev_tmp rfl) rfl) ?_
      refine sq_alloc rfl rfl rfl rfl Try.zeroValue57 rfl ?_
      intro b7
      refine sq_storeB0 0 rfl rfl rfl (ev_tmp rfl) (ev_tmp rfl) (as_agg _) rfl Try.sizeOf57 rfl ?_
      refine sq_plain rfl rfl rfl (w_assign rfl (ev_tmp rfl)) ?_
      refine sq_nil ?_
      refine awp_seq ?_
      refine awp_region ?_
      refine sq_plain rfl rfl rfl (w_move rfl (ev_tmp rfl)) ?_
      refine sq_nil ?_
      refine awp_cond (ev_tmp rfl) ?_ ?_
      · intro h51
        refine awp_region ?_
        refine sq_plain rfl rfl rfl (w_loadA 0 rfl (ev_tmp rfl) rfl Try.isAgg57 Try.sizeOf57 rfl) ?_
        refine sq_storeB0 2 rfl rfl rfl (ev_tmp rfl) (ev_tmp rfl) (as_agg _) rfl Try.sizeOf57 rfl ?_
        refine sq_nil ?_
        refine awp_seq ?_
        refine AWP.le (le_pick [3, 2] rfl) ?_
        refine awp_region_tree _ 3 (.pure 0 (.pure 1 (.e1 2 .nil))) (by kernel_rfl) (by kernel_rfl) rfl (invx_take 2) ?_
        refine bt_plain rfl rfl rfl (fun ext => w_loadA 0 rfl (ev_tmp rfl) rfl Try.isAgg74 Try.sizeOf74 rfl) ?_
        refine bt_plain rfl rfl rfl (fun ext => w_loadA 1 rfl (ev_tmp rfl) rfl Try.isAgg57 Try.sizeOf57 rfl) ?_
        refine bt_e1 ?_
        refine eff_s0 rfl rfl rfl (opE_storeB0 5 rfl rfl (ev_tmp rfl) (ev_tmp rfl) (as_agg _) rfl Try.sizeOf74 rfl) (fun a _ => (by first | exact invx_mk rfl | exact invx_mk (List.append_assoc _ _ _) | exact invx_all)) ?_
        intro _ _
        refine bt_nil ?_
        refine sq_storeB0 4 rfl rfl rfl (ev_tmp rfl) (ev_tmp rfl) (as_agg _) rfl Try.sizeOf57 rfl ?_
        refine sq_nil ?_
        refine awp_ret ?_
        first | (refine retG [] ((x13.2, x15.2)) ?_ rfl (by first | (dsimp only; rfl) | rfl) (resN rfl (by decide) (rv_cons (rv_cell (ys := _) 5 rfl rfl Try.isAgg74 Try.sizeOf74 rfl) (rv_cons (rv_cell (ys := _) 4 rfl rfl Try.isAgg57 Try.sizeOf57 rfl) rv_nil))); (dsimp only; exact ⟨by omega, by omega⟩)) | (refine retG [] ((x13.2, x48.2.1)) ?_ rfl (by first | (dsimp only; rfl) | rfl) (resN rfl (by decide) (rv_cons (rv_cell (ys := _) 5 rfl rfl Try.isAgg74 Try.sizeOf74 rfl) (rv_cons (rv_cell (ys := _) 4 rfl rfl Try.isAgg57 Try.sizeOf57 rfl) rv_nil))); (dsimp only; exact ⟨by omega, by omega⟩))
      · intro h51
        refine awp_skip ?_
        refine awp_seq ?_
        refine AWP.le (le_pick [3, 2] rfl) ?_
        refine awp_region_tree _ 3 (.pure 0 (.pure 1 (.e1 2 .nil))) (by kernel_rfl) (by kernel_rfl) rfl (invx_take 2) ?_
        refine bt_plain rfl rfl rfl (fun ext => w_loadA 0 rfl (ev_tmp rfl) rfl Try.isAgg74 Try.sizeOf74 rfl) ?_
        refine bt_plain rfl rfl rfl (fun ext => w_loadA 1 rfl (ev_tmp rfl) rfl Try.isAgg57 Try.sizeOf57 rfl) ?_
        refine bt_e1 ?_
        refine eff_s0 rfl rfl rfl (opE_storeB0 5 rfl rfl (ev_tmp rfl) (ev_tmp rfl) (as_agg _) rfl Try.sizeOf74 rfl) (fun a _ => (by first | exact invx_mk rfl | exact invx_mk (List.append_assoc _ _ _) | exact invx_all)) ?_
        intro _ _
        refine bt_nil ?_
        refine sq_storeB0 4 rfl rfl rfl (ev_tmp rfl) (ev_tmp rfl) (as_agg _) rfl Try.sizeOf57 rfl ?_
        refine sq_nil ?_
        refine awp_ret ?_
        first | (refine retG [] ((x13.2, x15.2)) ?_ rfl (by first | (dsimp only; rfl) | rfl) (resN rfl (by decide) (rv_cons (rv_cell (ys := _) 5 rfl rfl Try.isAgg74 Try.sizeOf74 rfl) (rv_cons (rv_cell (ys := _) 4 rfl rfl Try.isAgg57 Try.sizeOf57 rfl) rv_nil))); (dsimp only; exact ⟨by omega, by omega⟩)) | (refine retG [] ((x13.2, x48.2.1)) ?_ rfl (by first | (dsimp only; rfl) | rfl) (resN rfl (by decide) (rv_cons (rv_cell (ys := _) 5 rfl rfl Try.isAgg74 Try.sizeOf74 rfl) (rv_cons (rv_cell (ys := _) 4 rfl rfl Try.isAgg57 Try.sizeOf57 rfl) rv_nil))); (dsimp only; exact ⟨by omega, by omega⟩))
    · intro h37
      refine awp_skip ?_
      refine awp_seq ?_
      refine AWP.le (le_pick [2, 1] rfl) ?_
      refine awp_region_tree _ 3 (.pure 0 (.pure 1 (.e1 2 .nil))) (by kernel_rfl) (by kernel_rfl) rfl (invx_take 2) ?_
      refine bt_plain rfl rfl rfl (fun ext => w_loadA 0 rfl (ev_tmp rfl) rfl Try.isAgg74 Try.sizeOf74 rfl) ?_
      refine bt_plain rfl rfl rfl (fun ext => w_loadA 1 rfl (ev_tmp rfl) rfl Try.isAgg57 Try.sizeOf57 rfl) ?_
      refine bt_e1 ?_
      refine eff_s0 rfl rfl rfl (opE_storeB0 4 rfl rfl (ev_tmp rfl) (ev_tmp rfl) (as_agg _) rfl Try.sizeOf74 rfl) (fun a _ => (by first | exact invx_mk rfl | exact invx_mk (List.append_assoc _ _ _) | exact invx_all)) ?_
      intro _ _
      refine bt_nil ?_
      refine sq_storeB0 3 rfl rfl rfl (ev_tmp rfl) (ev_tmp rfl) (as_agg _) rfl Try.sizeOf57 rfl ?_
      refine sq_nil ?_
      refine awp_ret ?_
      first | (refine retG [] ((x13.2, x15.2)) ?_ rfl (by first | (dsimp only; rfl) | rfl) (resN rfl (by decide) (rv_cons (rv_cell (ys := _) 4 rfl rfl Try.isAgg74 Try.sizeOf74 rfl) (rv_cons (rv_cell (ys := _) 3 rfl rfl Try.isAgg57 Try.sizeOf57 rfl) rv_nil))); (dsimp only; exact ⟨by omega, by omega⟩)) | (refine retG [] ((x13.2, x48.2.1)) ?_ rfl (by first | (dsimp only; rfl) | rfl) (resN rfl (by decide) (rv_cons (rv_cell (ys := _) 4 rfl rfl Try.isAgg74 Try.sizeOf74 rfl) (rv_cons (rv_cell (ys := _) 3 rfl rfl Try.isAgg57 Try.sizeOf57 rfl) rv_nil))); (dsimp only; exact ⟨by omega, by omega⟩))
  · intro gh35
    refine sq_gcase rfl rfl (guard_t rfl rfl rfl) (fun hq => by rw [gh35] at hq; cases hq) (fun _ => ?_)
    refine sq_plain rfl rfl rfl (w_and rfl (ev_tmp rfl) (evif_no (x := AV.bool false) gh35)) ?_
    refine sq_nil ?_
    refine awp_cond (ev_tmp rfl) ?_ ?_
    · intro h37
      have hlen : 0 < x13.2.Maps.length := by (cases hm : x13.2.Maps with | nil => (rw [hm] at h37; simp at h37) | cons y t => simp)
      refine awp_seq ?_
      refine awp_region ?_
      refine sq_plain rfl rfl rfl (w_move rfl (ev_tmp rfl)) ?_
      refine sq_plain rfl rfl rfl (w_fldBn 0 rfl Try.underlying74 rfl Try.sizeOf72 (ev_tmp rfl) rfl) ?_
      refine sq_plain rfl rfl rfl (w_loadB1 2 rfl (ev_tmp rfl) rfl Try.isAgg72 rfl) ?_
      refine sq_plain rfl rfl rfl (w_fldBn 0 rfl Try.underlying74 rfl Try.sizeOf72 (ev_tmp rfl) rfl) ?_
      refine sq_plain rfl rfl rfl (w_loadB1 2 rfl (ev_tmp rfl) rfl Try.isAgg72 rfl) ?_
      refine sq_plain rfl rfl rfl (w_llen rfl Try.underlying72 (ev_tmp rfl)) ?_
      refine sq_plain rfl rfl rfl (w_subi rfl (ev_tmp rfl) ev_ci (by first | omega | ((try simp only [List.length_map, List.length_take, List.length_cons, List.length_nil, chunks_len, szR] at *); omega) | (have hc2 := hc; simp only [Bool.and_eq_true, Bool.or_eq_true, Bool.or_eq_false_iff, Bool.and_eq_false_iff, Bool.not_eq_true', Bool.not_eq_false', decide_eq_true_eq, decide_eq_false_iff_not, beq_iff_eq, bne_iff_ne, List.length_map, List.length_take] at hc2; omega))) ?_
      refine sq_plain rfl rfl rfl (w_idx rfl Try.underlying72 Try.sizeOf57 (ev_tmp rfl) (ev_tmp rfl) (by simp only [List.length_map]; omega) (by simp only [List.length_map]; exact last_get hlen)) ?_
      refine sq_plain rfl rfl rfl (w_loadE rfl (ev_tmp rfl) Try.isAgg57 Try.sizeOf57) ?_
      refine sq_callG [1] rfl rfl rfl rfl Try.call128 rfl (curNextPlaces_own _ _ hcode _ (lastM x13.2) (by omega) (by omega)) (evl_cons (ev_tmp rfl) (evl_cons (ev_tmp rfl) evl_nil)) rfl ?_
      intro x48 ok48
      refine sq_plain rfl rfl rfl (w_move rfl (ev_tmp rfl)) ?_
      refine sq_plain rfl rfl rfl (w_extract rfl (ev_tmp rfl) rfl) ?_
      refine sq_plain rfl rfl rfl (w_extract rfl (ev_tmp rfl) rfl) ?_
      refine sq_alloc rfl rfl rfl rfl Try.zeroValue57 rfl ?_
      intro b7
      refine sq_storeB0 0 rfl rfl rfl (ev_tmp rfl) (ev_tmp rfl) (as_agg _) rfl Try.sizeOf57 rfl ?_
      refine sq_plain rfl rfl rfl (w_assign rfl (ev_tmp rfl)) ?_
      refine sq_nil ?_
      refine awp_seq ?_
      refine awp_region ?_
      refine sq_plain rfl rfl rfl (w_move rfl (ev_tmp rfl)) ?_
      refine sq_nil ?_
      refine awp_cond (ev_tmp rfl) ?_ ?_
      · intro h51
        refine awp_region ?_
        refine sq_plain rfl rfl rfl (w_loadA 0 rfl (ev_tmp rfl) rfl Try.isAgg57 Try.sizeOf57 rfl) ?_
        refine sq_storeB0 2 rfl rfl rfl (ev_tmp rfl) (ev_tmp rfl) (as_agg _) rfl Try.sizeOf57 rfl ?_
        refine sq_nil ?_
        refine awp_seq ?_
        refine AWP.le (le_pick [3, 2] rfl) ?_
        refine awp_region_tree _ 3 (.pure 0 (.pure 1 (.e1 2 .nil))) (by kernel_rfl) (by kernel_rfl) rfl (invx_take 2) ?_
        refine bt_plain rfl rfl rfl (fun ext => w_loadA 0 rfl (ev_tmp rfl) rfl Try.isAgg74 Try.sizeOf74 rfl) ?_
        refine bt_plain rfl rfl rfl (fun ext => w_loadA 1 rfl (ev_tmp rfl) rfl Try.isAgg57 Try.sizeOf57 rfl) ?_
        refine bt_e1 ?_
        refine eff_s0 rfl rfl rfl (opE_storeB0 5 rfl rfl (ev_tmp rfl) (ev_tmp rfl) (as_agg _) rfl Try.sizeOf74 rfl) (fun a _ => (by first | exact invx_mk rfl | exact invx_mk (List.append_assoc _ _ _) | exact invx_all)) ?_
        intro _ _
        refine bt_nil ?_
        refine sq_storeB0 4 rfl rfl rfl (ev_tmp rfl) (ev_tmp rfl) (as_agg _) rfl Try.sizeOf57 rfl ?_
        refine sq_nil ?_
        refine awp_ret ?_
        first | (refine retG [] ((x13.2, x15.2)) ?_ rfl (by first | (dsimp only; rfl) | rfl) (resN rfl (by decide) (rv_cons (rv_cell (ys := _) 5 rfl rfl Try.isAgg74 Try.sizeOf74 rfl) (rv_cons (rv_cell (ys := _) 4 rfl rfl Try.isAgg57 Try.sizeOf57 rfl) rv_nil))); (dsimp only; exact ⟨by omega, by omega⟩)) | (refine retG [] ((x13.2, x48.2.1)) ?_ rfl (by first | (dsimp only; rfl) | rfl) (resN rfl (by decide) (rv_cons (rv_cell (ys := _) 5 rfl rfl Try.isAgg74 Try.sizeOf74 rfl) (rv_cons (rv_cell (ys := _) 4 rfl rfl Try.isAgg57 Try.sizeOf57 rfl) rv_nil))); (dsimp only; exact ⟨by omega, by omega⟩))
      · intro h51
        refine awp_skip ?_
        refine awp_seq ?_
        refine AWP.le (le_pick [3, 2] rfl) ?_
        refine awp_region_tree _ 3 (.pure 0 (.pure 1 (.e1 2 .nil))) (by kernel_rfl) (by kernel_rfl) rfl (invx_take 2) ?_
        refine bt_plain rfl rfl rfl (fun ext => w_loadA 0 rfl (ev_tmp rfl) rfl Try.isAgg74 Try.sizeOf74 rfl) ?_
        refine bt_plain rfl rfl rfl (fun ext => w_loadA 1 rfl (ev_tmp rfl) rfl Try.isAgg57 Try.sizeOf57 rfl) ?_
        refine bt_e1 ?_
        refine eff_s0 rfl rfl rfl (opE_storeB0 5 rfl rfl (ev_tmp rfl) (ev_tmp rfl) (as_agg _) rfl Try.sizeOf74 rfl) (fun a _ => (by first | exact invx_mk rfl | exact invx_mk (List.append_assoc _ _ _) | exact invx_all)) ?_
        intro _ _
        refine bt_nil ?_
        refine sq_storeB0 4 rfl rfl rfl (ev_tmp rfl) (ev_tmp rfl) (as_agg _) rfl Try.sizeOf57 rfl ?_
        refine sq_nil ?_
        refine awp_ret ?_
        first | (refine retG [] ((x13.2, x15.2)) ?_ rfl (by first | (dsimp only; rfl) | rfl) (resN rfl (by decide) (rv_cons (rv_cell (ys := _) 5 rfl rfl Try.isAgg74 Try.sizeOf74 rfl) (rv_cons (rv_cell (ys := _) 4 rfl rfl Try.isAgg57 Try.sizeOf57 rfl) rv_nil))); (dsimp only; exact ⟨by omega, by omega⟩)) | (refine retG [] ((x13.2, x48.2.1)) ?_ rfl (by first | (dsimp only; rfl) | rfl) (resN rfl (by decide) (rv_cons (rv_cell (ys := _) 5 rfl rfl Try.isAgg74 Try.sizeOf74 rfl) (rv_cons (rv_cell (ys := _) 4 rfl rfl Try.isAgg57 Try.sizeOf57 rfl) rv_nil))); (dsimp only; exact ⟨by omega, by omega⟩))
    · intro h37
      refine awp_skip ?_
      refine awp_seq ?_
      refine AWP.le (le_pick [2, 0] rfl) ?_
      refine awp_region_tree _ 3 (.pure 0 (.pure 1 (.e1 2 .nil))) (by kernel_rfl) (by kernel_rfl) rfl (invx_take 2) ?_
      refine bt_plain rfl rfl rfl (fun ext => w_loadA 0 rfl (ev_tmp rfl) rfl Try.isAgg74 Try.sizeOf74 rfl) ?_
      refine bt_plain rfl rfl rfl (fun ext => w_loadA 1 rfl (ev_tmp rfl) rfl Try.isAgg57 Try.sizeOf57 rfl) ?_
      refine bt_e1 ?_
      refine eff_s0 rfl rfl rfl (opE_storeB0 4 rfl rfl (ev_tmp rfl) (ev_tmp rfl) (as_agg _) rfl Try.sizeOf74 rfl) (fun a _ => (by first | exact invx_mk rfl | exact invx_mk (List.append_assoc _ _ _) | exact invx_all)) ?_
      intro _ _
      refine bt_nil ?_
      refine sq_storeB0 3 rfl rfl rfl (ev_tmp rfl) (ev_tmp rfl) (as_agg _) rfl Try.sizeOf57 rfl ?_
      refine sq_nil ?_
      refine awp_ret ?_
      first | (refine retG [] ((x13.2, x15.2)) ?_ rfl (by first | (dsimp only; rfl) | rfl) (resN rfl (by decide) (rv_cons (rv_cell (ys := _) 4 rfl rfl Try.isAgg74 Try.sizeOf74 rfl) (rv_cons (rv_cell (ys := _) 3 rfl rfl Try.isAgg57 Try.sizeOf57 rfl) rv_nil))); (dsimp only; exact ⟨by omega, by omega⟩)) | (refine retG [] ((x13.2, x48.2.1)) ?_ rfl (by first | (dsimp only; rfl) | rfl) (resN rfl (by decide) (rv_cons (rv_cell (ys := _) 4 rfl rfl Try.isAgg74 Try.sizeOf74 rfl) (rv_cons (rv_cell (ys := _) 3 rfl rfl Try.isAgg57 Try.sizeOf57 rfl) rv_nil))); (dsimp only; exact ⟨by omega, by omega⟩))
end Go.Proofs.Ytdbmaekdejhobaa
