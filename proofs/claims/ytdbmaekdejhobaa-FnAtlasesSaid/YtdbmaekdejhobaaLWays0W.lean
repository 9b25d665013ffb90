/- Contracts of routing whose results are sealed; what a request's way is in an atlas that has grown. -/
import Derived.Test.YtdbmaekdejhobaaDraw5W
import Derived.Test.YtdbmaekdejhobaaRouteW
set_option linter.unusedVariables false
set_option linter.unusedSimpArgs false
set_option maxRecDepth 100000
namespace Go.M
open Go.AV
theorem wayFor_ok {a : TAtlas} {i : Int} {key : Str} (h : (wayFor a i key).2 = true) : goodAtlas a = true ∧ goodKey key = true ∧ 0 ≤ i ∧ i < a.Maps.length ∧ wayFor a i key = (way a i.toNat key, true) ∧ ownersOfR a key = (ownersOf a key, true) := by
  unfold wayFor at h ⊢
  split at h
  · cases h
  · rename_i hh
    rw [if_neg hh]
    simp only [Bool.or_eq_true, Bool.not_eq_true', not_or, Bool.not_eq_false] at hh
    have h3 := wi_iff.1 hh.2
    refine ⟨hh.1.1, hh.1.2, by omega, by omega, rfl, ?_⟩
    unfold ownersOfR
    rw [hh.1.1, hh.1.2]; rfl
theorem setK_size : ∀ (gs ks : List Int) (n : Int), (setK ks gs n).length = ks.length := setK_len
theorem addMap_size (a : TAtlas) (p : TPlaces) : (addMap a p).1.size ≤ a.size + p.size + 1 := by
  unfold addMap; split
  · exact Nat.zero_le _
  · unfold TAtlas.size
    simp only [sizeL_snoc, setK_len]; omega
theorem tellGroup_size (a : TAtlas) (g t : Int) : (tellGroup a g t).1.size ≤ a.size := by
  unfold tellGroup; split
  · exact Nat.zero_le _
  · unfold TAtlas.size
    simp only [List.length_set]; omega
theorem newAtlas_size (p : TPlaces) : (newAtlas p).1.size ≤ p.size + 5 := by
  unfold newAtlas; split
  · exact Nat.zero_le _
  · unfold TAtlas.size sizeL
    simp only [List.length_cons, List.length_nil, List.map_cons, List.map_nil, List.sum_cons, List.sum_nil]; omega
theorem way_added {a : TAtlas} {p : TPlaces} (h : (addMap a p).2 = true) : wayFor (addMap a p).1 0 [109] = (way (addMap a p).1 0 [109], true) ∧ (way (addMap a p).1 0 [109]).length ≤ 12 ∧ 1 ≤ (way (addMap a p).1 0 [109]).length ∧ (way (addMap a p).1 0 [109])[(way (addMap a p).1 0 [109]).length - 1]? = some (ownerOf p [109]) := by
  obtain ⟨hg, hgp, hn, hmp, hgb⟩ := addMap_ok h
  have hl : 0 < (addMap a p).1.Maps.length := by rw [hmp]; simp
  obtain ⟨p1, p2, p3, p4, p5⟩ := way_props hgb [109] hl
  have hl12 := (atlas_facts hgb).2.1
  refine ⟨?_, by omega, p2, ?_⟩
  · unfold wayFor
    rw [hgb, show goodKey [109] = true from rfl, wi_iff.2 (show 0 ≤ (0 : Int) ∧ (0 : Int) ≤ ((addMap a p).1.Maps.length : Int) - 1 by omega)]; rfl
  · rw [p4]
    unfold mapAt
    rw [hmp, List.length_append, List.length_cons, List.length_nil, Nat.zero_add, Nat.add_sub_cancel, List.getD_eq_getElem?_getD, List.getElem?_append_right (Nat.le_refl _), Nat.sub_self]; rfl
end Go.M
namespace Go.Proofs.Ytdbmaekdejhobaa
open Go Go.AV Go.M
attribute [local irreducible] OpW OpA OpS AWP FSpec ESpec GSpec OpE RetOk RetOkG RvDen Le Ev GuardIs SrcIs
theorem wayForF_spec (a : TAtlas) (i : Int) (key : Str) (hs : a.size ≤ 1048576) (hk : key.length ≤ 1048576) : FSpec Try.prog 39 [AV.agg a.cs, AV.int i, AV.str key] (AV.tup [ints (wayFor a i key).1, AV.bool (wayFor a i key).2]) :=
  fspec_of_gspec (wayFor_own a i key hs hk) fun x _ => lt_tup (lc_cons (lt_arr (List.mem_of_getElem? (i := 0) rfl) le_refl_e) (lc_cons lt_refl lc_nil))
theorem ownersOfF_spec (a : TAtlas) (key : Str) (hs : a.size ≤ 1048576) (hk : key.length ≤ 1048576) : FSpec Try.prog 41 [AV.agg a.cs, AV.str key] (AV.tup [ints (ownersOfR a key).1, AV.bool (ownersOfR a key).2]) :=
  fspec_of_gspec (ownersOf_own a key hs hk) fun x _ => lt_tup (lc_cons (lt_arr (List.mem_of_getElem? (i := 0) rfl) le_refl_e) (lc_cons lt_refl lc_nil))
theorem addMapF_spec (a : TAtlas) (p : TPlaces) (hs : a.size ≤ 1048576) (hp : p.size ≤ 1048576) : FSpec Try.prog 47 [AV.agg a.cs, AV.agg p.cs] (AV.tup [AV.agg (addMap a p).1.cs, AV.bool (addMap a p).2]) :=
  fspec_of_gspec (addMap_own a p hs hp) fun x h => lt_tup (lc_cons (lt_agg (TAtlas.lcM _ x h fun _ ho => ho)) (lc_cons lt_refl lc_nil))
theorem tellGroupF_spec (a : TAtlas) (g t : Int) (hs : a.size ≤ 1048576) : FSpec Try.prog 50 [AV.agg a.cs, AV.int g, AV.int t] (AV.tup [AV.agg (tellGroup a g t).1.cs, AV.bool (tellGroup a g t).2]) :=
  fspec_of_gspec (tellGroup_own a g t hs) fun x h => lt_tup (lc_cons (lt_agg (TAtlas.lcM _ x h fun _ ho => ho)) (lc_cons lt_refl lc_nil))
theorem newAtlasF_spec (p : TPlaces) (hs : p.size ≤ 1048576) : FSpec Try.prog 55 [AV.agg p.cs] (AV.tup [AV.agg (newAtlas p).1.cs, AV.bool (newAtlas p).2]) :=
  fspec_of_gspec (newAtlas_own p hs) fun x h => lt_tup (lc_cons (lt_agg (TAtlas.lcM _ x h fun _ ho => ho)) (lc_cons lt_refl lc_nil))
end Go.Proofs.Ytdbmaekdejhobaa
