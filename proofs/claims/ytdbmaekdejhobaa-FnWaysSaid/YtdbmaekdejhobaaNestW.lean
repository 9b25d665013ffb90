/- Walks: rows of aggregates, taken over, marked and held. -/
import Derived.Test.YtdbmaekdejhobaaNestM
import Derived.Test.YtdbmaekdejhobaaMarkW
set_option linter.unusedVariables false
set_option linter.unusedSimpArgs false
set_option maxRecDepth 100000
namespace Go.Proofs.Ytdbmaekdejhobaa
open Go Go.AV Go.M
attribute [local irreducible] OpW OpA OpS AWP FSpec ESpec GSpec OpE RetOk RetOkG RvDen Le Ev GuardIs
theorem TPlaces.lcM {own : List Own} (p : TPlaces) (x : Value × Value) (h : ∀ o ∈ TPlaces.ow p x, o ∈ own) : LendC own (TPlaces.ocs p x) p.cs := lc_cons lt_refl (lc_cons (lt_arr (h _ (List.mem_of_getElem? (i := 0) rfl)) le_refl_e) (lc_cons (lt_arr (h _ (List.mem_of_getElem? (i := 1) rfl)) le_refl_e) lc_nil))
def TAtlas.ow (a : TAtlas) (x : Value × Value × List (Value × Value)) : List Own := .arr x.1 57 3 (nrows TPlaces.ocs a.Maps x.2.2) :: .arr x.2.1 3 1 (a.Knows.map (fun x => [AV.int x])) :: nin TPlaces.ow a.Maps x.2.2
theorem TAtlas.lcM {own : List Own} (a : TAtlas) (x : Value × Value × List (Value × Value)) (hl : x.2.2.length = a.Maps.length) (h : ∀ o ∈ TAtlas.ow a x, o ∈ own) : LendC own (TAtlas.ocs a x) a.cs := by
  have h1 := h _ (List.mem_of_getElem? (i := 0) rfl)
  have h2 := h _ (List.mem_of_getElem? (i := 1) rfl)
  obtain ⟨i, hi⟩ := List.getElem?_of_mem h1
  exact lc_cons (nin_lend TPlaces.lcM hl i hi fun o ho => h o (List.mem_cons_of_mem _ (List.mem_cons_of_mem _ ho))) (lc_cons (lt_arr h2 le_refl_e) lc_nil)
theorem TPlaces.flatC (p : TPlaces) (x : Value × Value) : ∀ c ∈ TPlaces.ocs p x, Flat c := flatC_cons (flat_ik _ _) (flatC_cons (flat_is _) (flatC_cons (flat_is _) flatC_nil))
theorem TPlaces.flatW (p : TPlaces) (x : Value × Value) : ∀ q ∈ TPlaces.ow p x, FlatO q := flatO_cons (flatO_arr (flate_map fun s => flatC_cons (flat_str _) flatC_nil)) (flatO_cons (flatO_arr (flate_map fun s => flatC_cons (flat_ik _ _) flatC_nil)) flatO_nil)
theorem TAtlas.flatW (a : TAtlas) (x : Value × Value × List (Value × Value)) : ∀ q ∈ TAtlas.ow a x, FlatO q := flatO_cons (flatO_arr (nrows_flat TPlaces.flatC _ _)) (flatO_cons (flatO_arr (flate_map fun s => flatC_cons (flat_ik _ _) flatC_nil)) (nin_flat TPlaces.flatW _ _))
theorem TAtlas.flatV (a : TAtlas) (x : Value × Value × List (Value × Value)) (b : Bool) : Flat (AV.tup [AV.agg (TAtlas.ocs a x), AV.bool b]) := flat_tup (flatC_cons (flat_agg (flatC_cons (flat_is _) (flatC_cons (flat_is _) flatC_nil))) (flatC_cons (flat_bool _) flatC_nil))
end Go.Proofs.Ytdbmaekdejhobaa
