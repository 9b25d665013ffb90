/- Plain law: owners behind a split, a join, a reassignment; the end of a request's way. -/
import Derived.Test.YtdbmaekdejhobaaRouteM
set_option linter.unusedVariables false
set_option linter.unusedSimpArgs false
namespace Go.M
def groupOf (p : TPlaces) (key : Str) : Int × Bool := if (!goodPlaces p || !goodKey key) = true then (0, false) else (ownerOf p key, true)
def rangeOf (p : TPlaces) (key : Str) : Int × Bool := if (!goodPlaces p || !goodKey key) = true then (0, false) else ((partOf p.Cuts key : Int), true)
theorem nextP_ok {p : TPlaces} (h : (nextP p).2 = true) : goodPlaces (bump p) = true ∧ (nextP p).1 = bump p := by
  unfold nextP at h ⊢
  split at h
  · cases h
  · rename_i hh
    rw [if_neg hh]
    exact ⟨by simpa using hh, rfl⟩
theorem splitAt_ok {p : TPlaces} {key : Str} (h : (splitAt p key).2 = true) : goodPlaces p = true ∧ goodPlaces (splitAt p key).1 = true ∧ ∀ y, ownerOf (splitAt p key).1 y = ownerOf p y := by
  unfold splitAt at h ⊢
  split at h
  · cases h
  · rename_i hh
    rw [if_neg hh]
    obtain ⟨h1, h2⟩ := nextP_ok h
    have hg : goodPlaces p = true := by cases hg : goodPlaces p with | true => rfl | false => (rw [hg] at hh; simp at hh)
    rw [h2]
    exact ⟨hg, h1, fun y => (owner_same rfl rfl y).trans (split_owner hg key y)⟩
theorem joinAt_ok {p : TPlaces} {i : Int} (h : (joinAt p i).2 = true) : goodPlaces p = true ∧ goodPlaces (joinAt p i).1 = true ∧ ∀ y, ownerOf (joinAt p i).1 y = ownerOf p y := by
  unfold joinAt at h ⊢
  split at h
  · cases h
  · rename_i hh
    rw [if_neg hh]
    obtain ⟨h1, h2⟩ := nextP_ok h
    simp only [Bool.or_eq_true, Bool.not_eq_true', not_or, Bool.not_eq_false, bne_iff_ne, ne_eq, Decidable.not_not] at hh
    obtain ⟨⟨r1, r2⟩, r3⟩ := hh
    obtain ⟨hg, i0, i1⟩ := isRange_facts r1
    obtain ⟨_, j0, j1⟩ := isRange_facts r2
    rw [h2]
    refine ⟨hg, h1, fun y => (owner_same rfl rfl y).trans (join_owner hg (i := i.toNat) (by omega) ?_ y)⟩
    have h3 := r3
    unfold gAt at h3
    rw [show (i + 1).toNat = i.toNat + 1 by omega] at h3
    exact h3
theorem giveTo_ok {p : TPlaces} {i g : Int} (h : (giveTo p i g).2 = true) : goodPlaces p = true ∧ goodPlaces (giveTo p i g).1 = true ∧ ∀ y, ((partOf p.Cuts y : Int) = i → ownerOf (giveTo p i g).1 y = g) ∧ ((partOf p.Cuts y : Int) ≠ i → ownerOf p y = ownerOf (giveTo p i g).1 y) := by
  unfold giveTo at h ⊢
  split at h
  · cases h
  · rename_i hh
    rw [if_neg hh]
    obtain ⟨h1, h2⟩ := nextP_ok h
    simp only [Bool.or_eq_true, Bool.not_eq_true', not_or, Bool.not_eq_false] at hh
    obtain ⟨hg, i0, i1⟩ := isRange_facts hh.1.1
    rw [h2]
    refine ⟨hg, h1, fun y => ⟨fun e => ?_, fun e => ?_⟩⟩
    · unfold ownerOf gAt bump setP
      simp only [Int.toNat_natCast]
      rw [show partOf p.Cuts y = i.toNat by omega, List.getD_eq_getElem?_getD, List.getElem?_set_self (by omega)]; rfl
    · unfold ownerOf gAt bump setP
      simp only [Int.toNat_natCast]
      rw [List.getD_eq_getElem?_getD, List.getD_eq_getElem?_getD, List.getElem?_set_ne (by omega)]
theorem groupOf_good {p : TPlaces} {k : Str} (h : goodPlaces p = true) (hk : goodKey k = true) : groupOf p k = (ownerOf p k, true) := by
  unfold groupOf; rw [h, hk]; rfl
theorem rangeOf_good {p : TPlaces} {k : Str} (h : goodPlaces p = true) (hk : goodKey k = true) : rangeOf p k = ((partOf p.Cuts k : Int), true) := by
  unfold rangeOf; rw [h, hk]; rfl
theorem sizeL_bd {α : Type} {f : α → Nat} {c : Nat} : ∀ {l : List α}, (∀ x ∈ l, f x ≤ c) → sizeL f l ≤ l.length * (c + 1)
  | [], _ => Nat.zero_le _
  | x :: l, h => by
    have h1 := sizeL_bd (l := l) fun y hy => h y (List.mem_cons_of_mem _ hy)
    have h2 := h x List.mem_cons_self
    unfold sizeL at h1 ⊢
    simp only [List.length_cons, List.map_cons, List.sum_cons]
    have : (l.length + 1) * (c + 1) = l.length * (c + 1) + (c + 1) := Nat.succ_mul _ _
    omega
theorem good_size {p : TPlaces} (h : goodPlaces p = true) : p.size ≤ 60 := by
  obtain ⟨_, _, h3, h4, _, h6⟩ := good_facts h
  have hk : ∀ k ∈ p.Cuts, k.length ≤ 12 := fun k hk => by
    have := List.all_eq_true.1 h6 k hk
    unfold goodKey at this
    simp only [Bool.and_eq_true] at this
    have h8 := this.1
    unfold within at h8
    simp at h8
    omega
  have h5 := sizeL_bd (f := fun k : Str => k.length) hk
  unfold TPlaces.size
  have h7 : p.Cuts.length * 13 ≤ 4 * 13 := Nat.mul_le_mul_right _ h3
  omega
theorem good_one {v g : Int} (hv : 0 ≤ v ∧ v ≤ 50) (hg : 0 ≤ g ∧ g < 4) : goodPlaces ⟨v, [], [g]⟩ = true := by
  have e1 : within v 0 50 = true := by unfold within; simp; omega
  have e2 : isGroup g = true := by unfold isGroup within; simp; omega
  unfold goodPlaces
  simp only [List.any_cons, List.any_nil, e1, e2]
  rfl
theorem good_ver {p : TPlaces} {v : Int} (h : goodPlaces p = true) (hv : 0 ≤ v ∧ v ≤ 50) : goodPlaces ⟨v, p.Cuts, p.Groups⟩ = true := by
  have e1 : within v 0 50 = true := by unfold within; simp; omega
  unfold goodPlaces at h ⊢
  simp only [Bool.and_eq_true] at h ⊢
  exact ⟨⟨⟨⟨e1, h.1.1.1.2⟩, h.1.1.2⟩, h.1.2⟩, h.2⟩
theorem good_set {p : TPlaces} {i : Nat} {g : Int} (h : goodPlaces p = true) (hg : 0 ≤ g ∧ g < 4) : goodPlaces ⟨p.Ver, p.Cuts, p.Groups.set i g⟩ = true := by
  have e2 : isGroup g = true := by unfold isGroup within; simp; omega
  unfold goodPlaces at h ⊢
  simp only [Bool.and_eq_true, Bool.not_eq_true', List.any_eq_false, List.length_set] at h ⊢
  refine ⟨h.1, fun x hx => ?_⟩
  rcases List.mem_or_eq_of_mem_set hx with h1 | h1
  · exact h.2 x h1
  · rw [h1, e2]; decide
end Go.M
