/- Plain functions: marks in rows of aggregates. -/
import Derived.Test.YtdbmaekdejhobaaMarkM
import Derived.Test.YtdbmaekdejhobaaAvN
set_option linter.unusedVariables false
set_option linter.unusedSimpArgs false
namespace Go.M
open Go.AV
def TPlaces.markE (p : TPlaces) (k : Int) : TPlaces := ⟨k, (p.mark (k + 1)).Cuts, (p.mark (k + 1)).Groups⟩
def TPlaces.markEN (p : TPlaces) (k : Int) : Int := p.markN (k + 1)
theorem TPlaces.markEN_le (p : TPlaces) (k : Int) : k ≤ p.markEN k := by unfold TPlaces.markEN TPlaces.markN; omega
theorem TPlaces.markEN_le1 (p : TPlaces) (k : Int) : k + 1 ≤ p.markEN k := by unfold TPlaces.markEN TPlaces.markN; omega
def TAtlas.mark (a : TAtlas) (k : Int) : TAtlas := ⟨marksN TPlaces.markE TPlaces.markEN a.Maps k, marks (fun k : Int => k) 1 a.Knows.length (countN TPlaces.markEN a.Maps k)⟩
def TAtlas.markN (a : TAtlas) (k : Int) : Int := countN TPlaces.markEN a.Maps k + 1 * a.Knows.length
def TAtlas.ocs (a : TAtlas) (x : Value × Value × List (Value × Value)) : List AV := [AV.is x.1, AV.is x.2.1]
theorem placesN_size : ∀ (l : List TPlaces) (k : Int), countN TPlaces.markEN l k ≤ k + sizeL TPlaces.size l + 0
  | [], k => by simp [countN, sizeL]
  | p :: l, k => by
    unfold countN
    have h1 := placesN_size l (p.markEN k)
    have h2 : p.markEN k ≤ k + p.size + 1 := by
      unfold TPlaces.markEN TPlaces.markN TPlaces.size
      have h3 : p.Cuts.length ≤ sizeL (fun x : Str => x.length) p.Cuts := sizeL_len
      omega
    unfold sizeL at *
    simp only [List.length_cons, List.map_cons, List.sum_cons] at *
    omega
end Go.M
