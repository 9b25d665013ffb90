/- Plain law: who owns a key from map to map; the way of a request ends. -/
import Derived.Test.YtdbmaekdejhobaaAtlasM
set_option linter.unusedVariables false
set_option linter.unusedSimpArgs false
namespace Go.M
open Go.AV
def ownerOf (p : TPlaces) (key : Str) : Int := gAt p (partOf p.Cuts key)
theorem gAt_nat (p : TPlaces) (n : Nat) : gAt p (n : Int) = p.Groups.getD n 0 := by unfold gAt; rw [Int.toNat_natCast]
theorem partOf_count (l : List Str) (key : Str) : partOf l key = l.countP fun c => sle c key := by unfold partOf; rw [List.countP_eq_length_filter]
theorem sle_tr {a b c : Str} (h : sle a b = true) (k : sle b c = true) : sle a c = true := by
  have h' := h
  unfold sle at h
  simp only [Bool.or_eq_true, beq_iff_eq] at h
  rcases h with h | h
  · exact sle_trans h k
  · subst h; exact k
theorem sle_total {a b : Str} (h : sle a b = false) : sle b a = true := by
  have := bytesLess_tri a b
  unfold sle at *
  simp only [Bool.or_eq_false_iff, beq_eq_false_iff_ne, ne_eq] at h
  simp only [Bool.or_eq_true, beq_iff_eq]
  cases hb : Op.bytesLess b a with
  | true => exact .inl rfl
  | false => exact .inr (by simp_all)
theorem part_le {l : List Str} {a b : Str} (h : sle a b = true) : partOf l a ≤ partOf l b := by
  rw [partOf_count, partOf_count]
  exact List.countP_mono_left fun c _ hc => sle_tr hc h
theorem part_ins (l : List Str) (n : Nat) (k key : Str) : partOf (l.take n ++ k :: l.drop n) key = partOf l key + (if sle k key = true then 1 else 0) := by
  rw [partOf_count, partOf_count, List.countP_append, List.countP_cons]
  have h : l.countP (fun c => sle c key) = (l.take n).countP (fun c => sle c key) + (l.drop n).countP (fun c => sle c key) := by
    rw [← List.countP_append, List.take_append_drop]
  omega
theorem split_owner {p : TPlaces} (hg : goodPlaces p = true) (k key : Str) : ownerOf (insP p (partOf p.Cuts k) k) key = ownerOf p key := by
  have h4 := (good_facts hg).2.2.2.1
  unfold ownerOf
  rw [gAt_nat, gAt_nat]
  unfold insP
  simp only []
  rw [part_ins]
  have hn := partOf_le p.Cuts k
  have hr := partOf_le p.Cuts key
  have hl : (p.Groups.take (partOf p.Cuts k)).length = partOf p.Cuts k := by rw [List.length_take]; omega
  rw [List.getD_eq_getElem?_getD, List.getD_eq_getElem?_getD]
  cases hk : sle k key with
  | true =>
    have h1 := part_le (l := p.Cuts) hk
    rw [if_pos rfl, List.getElem?_append_right (by omega), hl, show partOf p.Cuts key + 1 - partOf p.Cuts k = (partOf p.Cuts key - partOf p.Cuts k) + 1 by omega, List.getElem?_cons_succ, List.getElem?_drop, show partOf p.Cuts k + (partOf p.Cuts key - partOf p.Cuts k) = partOf p.Cuts key by omega, ← List.getD_eq_getElem?_getD]
  | false =>
    have h1 := part_le (l := p.Cuts) (sle_total hk)
    rw [if_neg (by decide), Nat.add_zero]
    rcases Nat.lt_or_ge (partOf p.Cuts key) (partOf p.Cuts k) with h2 | h2
    · rw [List.getElem?_append_left (by omega), List.getElem?_take_of_lt h2, ← List.getD_eq_getElem?_getD]
    · have h3 : partOf p.Cuts key = partOf p.Cuts k := by omega
      rw [h3, List.getElem?_append_right (by omega), hl, Nat.sub_self, List.getElem?_cons_zero, List.getD_eq_getElem?_getD, Option.getD_some]
theorem part_del {l : List Str} {i : Nat} {c : Str} (h : l[i]? = some c) (key : Str) : partOf l key = partOf (l.eraseIdx i) key + (if sle c key = true then 1 else 0) := by
  rw [partOf_count, partOf_count, List.eraseIdx_eq_take_drop_succ, List.countP_append]
  have hd : l = l.take i ++ c :: l.drop (i + 1) := by
    have := List.take_append_drop i l
    rw [drop_some h] at this
    exact this.symm
  conv => lhs; rw [hd]
  rw [List.countP_append, List.countP_cons]
  omega
theorem tw_lt {α : Type} {p : α → Bool} : ∀ {l : List α} {i : Nat} {x : α}, i < (l.takeWhile p).length → l[i]? = some x → p x = true
  | [], i, x, h, _ => by simp at h
  | y :: l, i, x, h, hx => by
    cases hy : p y with
    | false => simp [hy] at h
    | true =>
      cases i with
      | zero => simp at hx; subst hx; exact hy
      | succ i => simp [hy] at h; exact tw_lt h (by simpa using hx)
theorem sorted_part {l : List Str} (hs : adj Op.bytesLess l = true) {i : Nat} {c : Str} (h : l[i]? = some c) (key : Str) : (sle c key = true → i + 1 ≤ partOf l key) ∧ (sle c key = false → partOf l key ≤ i) := by
  have hi := (List.getElem?_eq_some_iff.1 h).1
  rw [partOf_eq key hs]
  unfold rangeS
  constructor
  · intro hk
    rcases Nat.lt_or_ge i (l.takeWhile fun c => sle c key).length with h1 | h1
    · exact h1
    · exfalso
      obtain ⟨d, hd⟩ := get_some (show (l.takeWhile fun c => sle c key).length < l.length by omega)
      have hf := tw_at (p := fun c => sle c key) (l := l) rfl hd
      rcases Nat.eq_or_lt_of_le h1 with h2 | h2
      · rw [← h2] at h; rw [hd] at h; injection h with h; subst h; rw [hf] at hk; cases hk
      · have := adj_get (p := Op.bytesLess) (fun a b c h1 h2 => bytesLess_trans h1 h2) hs h2 hd h
        rw [sle_trans this hk] at hf; cases hf
  · intro hk
    rcases Nat.lt_or_ge i (l.takeWhile fun c => sle c key).length with h1 | h1
    · exfalso
      have := tw_lt (p := fun c => sle c key) h1 h
      rw [hk] at this; cases this
    · exact h1
theorem join_owner {p : TPlaces} (hg : goodPlaces p = true) {i : Nat} (hi : i + 1 < p.Groups.length) (he : p.Groups.getD i 0 = p.Groups.getD (i + 1) 0) (key : Str) : ownerOf (delP p i) key = ownerOf p key := by
  obtain ⟨_, _, _, h4, h5, _⟩ := good_facts hg
  obtain ⟨c, hc⟩ := get_some (show i < p.Cuts.length by omega)
  obtain ⟨s1, s2⟩ := sorted_part h5 hc key
  have hd := part_del hc key
  unfold ownerOf
  rw [gAt_nat, gAt_nat]
  unfold delP
  simp only []
  rw [List.getD_eq_getElem?_getD, List.getD_eq_getElem?_getD]
  cases hk : sle c key with
  | true =>
    have h1 := s1 hk
    rw [hk, if_pos rfl] at hd
    rw [List.getElem?_eraseIdx_of_ge (by omega), ← hd]
  | false =>
    have h1 := s2 hk
    rw [hk, if_neg (by decide)] at hd
    rcases Nat.lt_or_ge (partOf (p.Cuts.eraseIdx i) key) i with h2 | h2
    · rw [List.getElem?_eraseIdx_of_lt h2, hd, Nat.add_zero]
    · have h3 : partOf (p.Cuts.eraseIdx i) key = i := by omega
      rw [hd, Nat.add_zero, h3, List.getElem?_eraseIdx_of_ge (Nat.le_refl _), ← List.getD_eq_getElem?_getD, ← List.getD_eq_getElem?_getD, he]
theorem owner_same {a b : TPlaces} (hc : b.Cuts = a.Cuts) (hg : b.Groups = a.Groups) (key : Str) : ownerOf b key = ownerOf a key := by unfold ownerOf gAt; rw [hc, hg]
theorem owner_next {a b : TPlaces} (ha : goodPlaces a = true) (hb : goodPlaces b = true) (h : isNext a b = true) (key : Str) : ownerOf b key = ownerOf a key ∨ ownerOf b key ∈ changed a b := by
  unfold isNext at h
  simp only [Bool.or_eq_true, List.any_eq_true] at h
  rcases h with ⟨k, _, h⟩ | h
  · refine .inl ?_
    unfold splitAt at h
    split at h
    · rw [no_hit] at h; cases h
    · obtain ⟨h1, h2⟩ := nextP_hit h
      rw [owner_same h1 h2, split_owner ha]
  · obtain ⟨i, x, hx, h⟩ := anyI_some h
    rw [Nat.zero_add] at h
    unfold nextAt at h
    simp only [Bool.or_eq_true] at h
    rcases h with h | h
    · refine .inl ?_
      unfold joinAt at h
      split at h
      · rw [no_hit] at h; cases h
      · rename_i hn
        simp only [Bool.or_eq_true, not_or, Bool.not_eq_true'] at hn
        obtain ⟨⟨_, hn1⟩, hn2⟩ := hn
        have hr1 := isRange_facts (show isRange a (i + 1) = true by revert hn1; cases isRange a (i + 1) <;> simp)
        obtain ⟨h1, h2⟩ := nextP_hit h
        rw [Int.toNat_natCast] at h1 h2
        rw [owner_same h1 h2]
        refine join_owner ha (by omega) ?_ key
        have h3 : gAt a i = gAt a ((i : Int) + 1) := by
          cases h9 : gAt a i != gAt a ((i : Int) + 1) with
          | true => rw [h9] at hn2; exact absurd rfl hn2
          | false => simpa using h9
        rw [gAt_nat, show ((i : Int) + 1) = ((i + 1 : Nat) : Int) by omega, gAt_nat] at h3
        exact h3
    · unfold ra at h
      obtain ⟨j, _, h⟩ := List.any_eq_true.1 h
      simp only [Bool.and_eq_true] at h
      have h := h.2
      have hlaw := law_give h
      unfold giveTo at h
      split at h
      · rw [no_hit] at h; cases h
      · rename_i hn
        simp only [Bool.or_eq_true, not_or, Bool.not_eq_true'] at hn
        obtain ⟨⟨hr, _⟩, hgk⟩ := hn
        have hr1 := isRange_facts (show isRange a i = true by revert hr; cases isRange a i <;> simp)
        obtain ⟨h1, h2⟩ := nextP_hit h
        have hcut : b.Cuts = a.Cuts := by rw [h1]; rfl
        have hgr : b.Groups = a.Groups.set i j := by rw [h2]; simp [setP]
        have hxj : (x == (j : Int)) = false := by
          have h9 : gAt a i = x := by rw [gAt_nat, List.getD_eq_getElem?_getD, hx]; rfl
          rw [h9] at hgk
          revert hgk; cases x == (j : Int) <;> simp
        have hch : changed a b = [x, (j : Int)] := by unfold changed; rw [if_neg (by rw [hcut]; simp), hgr, chg_set hx hxj]
        rw [hch]
        have ho : ownerOf b key = (a.Groups.set i (j : Int)).getD (partOf a.Cuts key) 0 := by unfold ownerOf; rw [gAt_nat, hcut, hgr]
        have ho2 : ownerOf a key = a.Groups.getD (partOf a.Cuts key) 0 := by unfold ownerOf; rw [gAt_nat]
        rcases Nat.decEq i (partOf a.Cuts key) with h5 | h5
        · refine .inl ?_
          rw [ho, ho2, List.getD_eq_getElem?_getD, List.getElem?_set_ne h5, ← List.getD_eq_getElem?_getD]
        · refine .inr ?_
          rw [ho, ← h5, List.getD_eq_getElem?_getD, List.getElem?_set_self (by omega)]
          simp
def mapAt (a : TAtlas) (i : Nat) : TPlaces := a.Maps.getD i noPlaces
def knowsAt (a : TAtlas) (g : Int) : Int := a.Knows.getD g.toNat 0
def stepW (a : TAtlas) (key : Str) (g : Int) : Int := ownerOf (mapAt a (knowsAt a g).toNat) key
def extW (a : TAtlas) (key : Str) : Nat → Int → List Int
  | 0, _ => []
  | f + 1, g => if (stepW a key g == g) = true then [] else stepW a key g :: extW a key f (stepW a key g)
theorem mapAt_get {a : TAtlas} {i : Nat} (h : i < a.Maps.length) : a.Maps[i]? = some (mapAt a i) := by unfold mapAt; rw [List.getD_eq_getElem?_getD, List.getElem?_eq_getElem h]; rfl
theorem know_change {a : TAtlas} (hg : goodAtlas a = true) {j : Nat} (h0 : 0 < j) (hj : j < a.Maps.length) (key : Str) (hne : ownerOf (mapAt a (j - 1)) key ≠ ownerOf (mapAt a j) key) : (j : Int) ≤ knowsAt a (ownerOf (mapAt a j) key) := by
  have hp := mapAt_get (a := a) (i := j) hj
  have hq := mapAt_get (a := a) (i := j - 1) (by omega)
  have hgp := good_maps hg hp
  have hgq := good_maps hg hq
  have hpv : prevM a j = mapAt a (j - 1) := rfl
  unfold goodAtlas at hg
  simp only [Bool.and_eq_true, Bool.not_eq_true'] at hg
  have hb := anyI_false hg.2 j _ hp
  rw [Nat.zero_add] at hb
  unfold bad at hb
  have hd : decide (0 < (j : Int)) = true := by simp; omega
  rw [hd, Bool.true_and, Bool.true_and, hpv] at hb
  simp only [Bool.or_eq_false_iff, Bool.not_eq_false'] at hb
  rcases owner_next hgq hgp hb.1.2 key with h | h
  · exact absurd h.symm hne
  · have h1 := List.any_eq_false.1 hb.2 _ h
    unfold late at h1
    unfold knowsAt
    simp only [decide_eq_true_eq] at h1
    omega
theorem find_change {a : TAtlas} {key : Str} {m : Nat} : ∀ {n : Nat}, m ≤ n → ownerOf (mapAt a m) key ≠ ownerOf (mapAt a n) key → ∃ j, m < j ∧ j ≤ n ∧ ownerOf (mapAt a j) key = ownerOf (mapAt a n) key ∧ ownerOf (mapAt a (j - 1)) key ≠ ownerOf (mapAt a j) key
  | 0, h, hne => by
    have : m = 0 := by omega
    subst this; exact absurd rfl hne
  | n + 1, h, hne => by
    rcases Nat.eq_or_lt_of_le h with h1 | h1
    · subst h1; exact absurd rfl hne
    · by_cases h2 : ownerOf (mapAt a n) key = ownerOf (mapAt a (n + 1)) key
      · obtain ⟨j, j1, j2, j3, j4⟩ := find_change (a := a) (key := key) (m := m) (n := n) (by omega) (by rw [h2]; exact hne)
        exact ⟨j, j1, by omega, by rw [j3, h2], j4⟩
      · exact ⟨n + 1, by omega, Nat.le_refl _, rfl, by simpa using h2⟩
theorem knows_range {a : TAtlas} (hg : goodAtlas a = true) {g : Int} (h : 0 ≤ g ∧ g < 4) : 0 ≤ knowsAt a g ∧ knowsAt a g < a.Maps.length := by
  obtain ⟨_, _, h4, hk⟩ := atlas_facts hg
  obtain ⟨x, hx⟩ := get_some (show g.toNat < a.Knows.length by omega)
  unfold knowsAt
  rw [List.getD_eq_getElem?_getD, hx]
  exact hk x (List.mem_of_getElem? hx)
theorem owner_range {p : TPlaces} (hg : goodPlaces p = true) (key : Str) : 0 ≤ ownerOf p key ∧ ownerOf p key < 4 := by
  have h4 := (good_facts hg).2.2.2.1
  have hr := partOf_le p.Cuts key
  obtain ⟨x, hx⟩ := get_some (show partOf p.Cuts key < p.Groups.length by omega)
  unfold ownerOf
  rw [gAt_nat, List.getD_eq_getElem?_getD, hx]
  exact good_groups hg x (List.mem_of_getElem? hx)
theorem way_first {a : TAtlas} (hg : goodAtlas a = true) (key : Str) {m : Nat} (hm : m < a.Maps.length) : (m : Int) ≤ knowsAt a (ownerOf (mapAt a m) key) ∨ stepW a key (ownerOf (mapAt a m) key) = ownerOf (mapAt a m) key := by
  have hr := knows_range hg (owner_range (good_maps hg (mapAt_get hm)) key)
  rcases (show knowsAt a (ownerOf (mapAt a m) key) < (m : Int) ∨ (m : Int) ≤ knowsAt a (ownerOf (mapAt a m) key) by omega) with h | h
  · refine .inr ?_
    unfold stepW
    by_cases h2 : ownerOf (mapAt a (knowsAt a (ownerOf (mapAt a m) key)).toNat) key = ownerOf (mapAt a m) key
    · exact h2
    · obtain ⟨j, j1, j2, j3, j4⟩ := find_change (a := a) (key := key) (m := (knowsAt a (ownerOf (mapAt a m) key)).toNat) (n := m) (by omega) h2
      have := know_change hg (j := j) (by omega) (by omega) key j4
      rw [j3] at this
      omega
  · exact .inl h
theorem way_next {a : TAtlas} (hg : goodAtlas a = true) (key : Str) {m : Nat} {g : Int} (hm : m < a.Maps.length) (ho : ownerOf (mapAt a m) key = g) (hk : (m : Int) ≤ knowsAt a g) (hne : stepW a key g ≠ g) : ∃ j, m < j ∧ j < a.Maps.length ∧ ownerOf (mapAt a j) key = stepW a key g ∧ (j : Int) ≤ knowsAt a (stepW a key g) := by
  have hr := knows_range hg (g := g) (by rw [← ho]; exact owner_range (good_maps hg (mapAt_get hm)) key)
  obtain ⟨j, j1, j2, j3, j4⟩ := find_change (a := a) (key := key) (m := m) (n := (knowsAt a g).toNat) (by omega) (by rw [ho]; exact fun h => hne h.symm)
  refine ⟨j, j1, by omega, j3, ?_⟩
  have := know_change hg (j := j) (by omega) (by omega) key j4
  rw [j3] at this
  exact this
theorem extW_end {a : TAtlas} {key : Str} {g : Int} (h : stepW a key g = g) : ∀ f, extW a key f g = []
  | 0 => rfl
  | f + 1 => by unfold extW; rw [if_pos (by rw [h]; simp)]
theorem extW_step {a : TAtlas} {key : Str} {g : Int} (h : stepW a key g ≠ g) : ∀ {f : Nat}, 0 < f → extW a key f g = stepW a key g :: extW a key (f - 1) (stepW a key g)
  | 0, h0 => by omega
  | f + 1, _ => by
    conv => lhs; unfold extW
    rw [if_neg (by simpa using h)]; rfl
def way (a : TAtlas) (m : Nat) (key : Str) : List Int := ownerOf (mapAt a m) key :: extW a key a.Maps.length (ownerOf (mapAt a m) key)
def wayFor (a : TAtlas) (i : Int) (key : Str) : List Int × Bool := if (!goodAtlas a || !goodKey key || !within i 0 ((a.Maps.length : Int) - 1)) = true then ([], false) else (way a i.toNat key, true)
def wayForS (a : TAtlas) (i : Int) (key : Str) : List Int × Bool := if (!goodAtlasS a || !within i 0 ((a.Maps.length : Int) - 1) || !l3Key key) = true then ([], false) else (way a i.toNat key, true)
theorem wayFor_eq (a : TAtlas) (i : Int) (key : Str) : wayFor a i key = wayForS a i key := by
  unfold wayFor wayForS
  rw [← goodAtlas_eq, ← goodKey_eq]
  cases goodAtlas a <;> cases goodKey key <;> cases within i 0 ((a.Maps.length : Int) - 1) <;> rfl
theorem extW_len {a : TAtlas} {key : Str} : ∀ (f : Nat) (g : Int), (extW a key f g).length ≤ f
  | 0, _ => Nat.le_refl _
  | f + 1, g => by
    unfold extW
    split
    · exact Nat.zero_le _
    · simp only [List.length_cons]; have := extW_len (a := a) (key := key) f (stepW a key g); omega
theorem owner_part {p : TPlaces} (hg : goodPlaces p = true) (key : Str) : gAt p (rangeS p.Cuts key) = ownerOf p key := by unfold ownerOf; rw [partOf_eq key (good_facts hg).2.2.2.2.1]
end Go.M
