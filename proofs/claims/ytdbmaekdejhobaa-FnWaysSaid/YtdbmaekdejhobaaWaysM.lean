/- Plain law: a request's way ends at the latest owner; atlases stay good. -/
import Derived.Test.YtdbmaekdejhobaaOwnM
set_option linter.unusedVariables false
set_option linter.unusedSimpArgs false
namespace Go.M
open Go.AV
theorem owner_lost {a b : TPlaces} (ha : goodPlaces a = true) (hb : goodPlaces b = true) (h : isNext a b = true) (key : Str) : ownerOf b key = ownerOf a key ∨ ownerOf a key ∈ changed a b := by
  unfold isNext at h
  simp only [Bool.or_eq_true, List.any_eq_true] at h
  rcases h with ⟨k, _, h⟩ | h
  · refine .inl ?_
    unfold hit at h
    simp only [Bool.and_eq_true] at h
    obtain ⟨_, _, h3⟩ := splitAt_ok h.1
    have h4 := h.2
    unfold samePlaces at h4
    simp only [Bool.and_eq_true, decide_eq_true_eq] at h4
    rw [← owner_same h4.1.2 h4.2 key]
    exact h3 key
  · obtain ⟨i, x, hx, h⟩ := anyI_some h
    rw [Nat.zero_add] at h
    unfold nextAt at h
    simp only [Bool.or_eq_true] at h
    rcases h with h | h
    · refine .inl ?_
      unfold hit at h
      simp only [Bool.and_eq_true] at h
      obtain ⟨_, _, h3⟩ := joinAt_ok h.1
      have h4 := h.2
      unfold samePlaces at h4
      simp only [Bool.and_eq_true, decide_eq_true_eq] at h4
      rw [← owner_same h4.1.2 h4.2 key]
      exact h3 key
    · unfold ra at h
      obtain ⟨j, _, h⟩ := List.any_eq_true.1 h
      simp only [Bool.and_eq_true] at h
      have h := h.2
      unfold giveTo at h
      split at h
      · rw [no_hit] at h; cases h
      · rename_i hn
        simp only [Bool.or_eq_true, not_or, Bool.not_eq_true'] at hn
        obtain ⟨⟨hr, _⟩, hgk⟩ := hn
        have hr1 := isRange_facts (show isRange a i = true by revert hr; cases isRange a i <;> simp)
        obtain ⟨h1, h2⟩ := nextP_hit h
        have hcut : b.Cuts = a.Cuts := by rw [h1]; rfl
        have hgr : b.Groups = a.Groups.set i j := by rw [h2]; simp [setP]
        have h9 : gAt a i = x := by rw [gAt_nat, List.getD_eq_getElem?_getD, hx]; rfl
        have hxj : (x == (j : Int)) = false := by
          rw [h9] at hgk
          revert hgk; cases x == (j : Int) <;> simp
        have hch : changed a b = [x, (j : Int)] := by unfold changed; rw [if_neg (by rw [hcut]; simp), hgr, chg_set hx hxj]
        rw [hch]
        have ho : ownerOf b key = (a.Groups.set i (j : Int)).getD (partOf a.Cuts key) 0 := by unfold ownerOf; rw [gAt_nat, hcut, hgr]
        have ho2 : ownerOf a key = a.Groups.getD (partOf a.Cuts key) 0 := by unfold ownerOf; rw [gAt_nat]
        rcases Nat.decEq i (partOf a.Cuts key) with h5 | h5
        · refine .inl ?_
          rw [ho, ho2, List.getD_eq_getElem?_getD, List.getElem?_set_ne h5, ← List.getD_eq_getElem?_getD]
        · refine .inr ?_
          rw [ho2, ← h5, List.getD_eq_getElem?_getD, hx]
          simp
theorem know_loss {a : TAtlas} (hg : goodAtlas a = true) {j : Nat} (h0 : 0 < j) (hj : j < a.Maps.length) (key : Str) (hne : ownerOf (mapAt a (j - 1)) key ≠ ownerOf (mapAt a j) key) : (j : Int) ≤ knowsAt a (ownerOf (mapAt a (j - 1)) key) := by
  have hp := mapAt_get (a := a) (i := j) hj
  have hq := mapAt_get (a := a) (i := j - 1) (by omega)
  have hgp := good_maps hg hp
  have hgq := good_maps hg hq
  have hpv : prevM a j = mapAt a (j - 1) := rfl
  unfold goodAtlas at hg
  simp only [Bool.and_eq_true, Bool.not_eq_true'] at hg
  have hb := anyI_false hg.2 j _ hp
  rw [Nat.zero_add] at hb
  unfold bad at hb
  have hd : decide (0 < (j : Int)) = true := by simp; omega
  rw [hd, Bool.true_and, Bool.true_and, hpv] at hb
  simp only [Bool.or_eq_false_iff, Bool.not_eq_false'] at hb
  rcases owner_lost hgq hgp hb.1.2 key with h | h
  · exact absurd h.symm hne
  · have h1 := List.any_eq_false.1 hb.2 _ h
    unfold late at h1
    unfold knowsAt
    simp only [decide_eq_true_eq] at h1
    omega
theorem find_first {a : TAtlas} {key : Str} {m : Nat} : ∀ (d : Nat), ownerOf (mapAt a m) key ≠ ownerOf (mapAt a (m + d)) key → ∃ j, m < j ∧ j ≤ m + d ∧ ownerOf (mapAt a (j - 1)) key = ownerOf (mapAt a m) key ∧ ownerOf (mapAt a (j - 1)) key ≠ ownerOf (mapAt a j) key
  | 0, h => absurd rfl h
  | d + 1, h => by
    by_cases h2 : ownerOf (mapAt a m) key = ownerOf (mapAt a (m + d)) key
    · exact ⟨m + d + 1, by omega, by omega, h2.symm, by rw [Nat.add_sub_cancel, ← h2]; exact h⟩
    · obtain ⟨j, j1, j2, j3⟩ := find_first d h2
      exact ⟨j, j1, by omega, j3⟩
theorem way_stop {a : TAtlas} (hg : goodAtlas a = true) (key : Str) {g : Int} (hr : 0 ≤ g ∧ g < 4) (hs : stepW a key g = g) : g = ownerOf (mapAt a (a.Maps.length - 1)) key := by
  have hk := knows_range hg hr
  unfold stepW at hs
  by_cases h : ownerOf (mapAt a (knowsAt a g).toNat) key = ownerOf (mapAt a (a.Maps.length - 1)) key
  · rw [← h, hs]
  · obtain ⟨j, j1, j2, j3, j4⟩ := find_first (a := a) (key := key) (m := (knowsAt a g).toNat) (a.Maps.length - 1 - (knowsAt a g).toNat) (by rw [show (knowsAt a g).toNat + (a.Maps.length - 1 - (knowsAt a g).toNat) = a.Maps.length - 1 by omega]; exact h)
    have := know_loss hg (j := j) (by omega) (by omega) key j4
    rw [j3, hs] at this
    omega
theorem ext_props {a : TAtlas} (hg : goodAtlas a = true) (key : Str) : ∀ (f m : Nat) (g : Int), m < a.Maps.length → a.Maps.length ≤ f + m → ownerOf (mapAt a m) key = g → ((m : Int) ≤ knowsAt a g ∨ stepW a key g = g) →
    (g :: extW a key f g).length ≤ a.Maps.length - m ∧ (g :: extW a key f g)[(g :: extW a key f g).length - 1]? = some (ownerOf (mapAt a (a.Maps.length - 1)) key) ∧ ∀ i x y, (g :: extW a key f g)[i]? = some x → (g :: extW a key f g)[i + 1]? = some y → x ≠ y
  | 0, m, g, hm, hf, _, _ => by omega
  | f + 1, m, g, hm, hf, ho, hk => by
    have hr : 0 ≤ g ∧ g < 4 := by rw [← ho]; exact owner_range (good_maps hg (mapAt_get hm)) key
    by_cases hs : stepW a key g = g
    · rw [extW_end hs]
      refine ⟨by simp only [List.length_cons, List.length_nil]; omega, ?_, fun i x y _ h2 => ?_⟩
      · rw [← way_stop hg key hr hs]; rfl
      · simp at h2
    · have hk2 : (m : Int) ≤ knowsAt a g := by rcases hk with h | h; exact h; exact absurd h hs
      obtain ⟨j, j1, j2, j3, j4⟩ := way_next hg key hm ho hk2 hs
      obtain ⟨p1, p2, p3⟩ := ext_props hg key f j (stepW a key g) j2 (by omega) j3 (.inl j4)
      rw [extW_step hs (by omega), show f + 1 - 1 = f from rfl]
      refine ⟨by simp only [List.length_cons] at *; omega, ?_, fun i x y h1 h2 => ?_⟩
      · rw [← p2]
        simp only [List.length_cons, Nat.add_sub_cancel]
        rw [List.getElem?_cons_succ]
      · cases i with
        | zero =>
          simp only [List.getElem?_cons_zero, Option.some.injEq, List.getElem?_cons_succ] at h1 h2
          rw [← h1, ← h2]; exact fun h => hs h.symm
        | succ i => rw [List.getElem?_cons_succ] at h1 h2; exact p3 i x y h1 h2
theorem way_props {a : TAtlas} (hg : goodAtlas a = true) (key : Str) {m : Nat} (hm : m < a.Maps.length) :
    (way a m key).length ≤ a.Maps.length - m ∧ 1 ≤ (way a m key).length ∧ (way a m key)[0]? = some (ownerOf (mapAt a m) key) ∧ (way a m key)[(way a m key).length - 1]? = some (ownerOf (mapAt a (a.Maps.length - 1)) key) ∧ ∀ i x y, (way a m key)[i]? = some x → (way a m key)[i + 1]? = some y → x ≠ y := by
  obtain ⟨p1, p2, p3⟩ := ext_props hg key a.Maps.length m _ hm (by omega) rfl (way_first hg key hm)
  exact ⟨p1, by unfold way; simp, rfl, p2, p3⟩
theorem owners_get {a : TAtlas} (key : Str) {i : Nat} (h : i < a.Maps.length) : (ownersOf a key)[i]? = some (ownerOf (mapAt a i) key) := by
  unfold ownersOf; rw [List.getElem?_map, mapAt_get h]; rfl
/-! ### Atlases stay good -/
theorem wi_iff {n a b : Int} : within n a b = true ↔ a ≤ n ∧ n ≤ b := by unfold within; simp
theorem anyI_none {α : Type} {f : Nat → α → Bool} {l : List α} {k : Nat} (h : ∀ i x, l[i]? = some x → f (k + i) x = false) : anyI f l k = false := by
  cases ha : anyI f l k with
  | false => rfl
  | true => obtain ⟨i, x, h1, h2⟩ := anyI_some ha; rw [h i x h1] at h2; cases h2
theorem atlas_mk {a : TAtlas} (h1 : 1 ≤ a.Maps.length ∧ a.Maps.length ≤ 12) (h2 : a.Knows.length = 4) (h3 : ∀ n ∈ a.Knows, 0 ≤ n ∧ n < a.Maps.length) (h4 : ∀ i x, a.Maps[i]? = some x → bad a i x = false) : goodAtlas a = true := by
  unfold goodAtlas
  rw [anyI_none (fun i x h => by rw [Nat.zero_add]; exact h4 i x h)]
  have e1 : within (a.Maps.length : Int) 1 12 = true := wi_iff.2 (by omega)
  have e2 : ((a.Knows.length : Int) == 4) = true := by rw [h2]; rfl
  have e3 : (a.Knows.any fun n => !within n 0 ((a.Maps.length : Int) - 1)) = false := by
    rw [List.any_eq_false]
    intro n hn
    have := h3 n hn
    rw [wi_iff.2 (show 0 ≤ n ∧ n ≤ (a.Maps.length : Int) - 1 by omega)]
    decide
  rw [e1, e2, e3]; rfl
theorem atlas_bad {a : TAtlas} (h : goodAtlas a = true) {i : Nat} {x : TPlaces} (hx : a.Maps[i]? = some x) : bad a i x = false := by
  unfold goodAtlas at h
  simp only [Bool.and_eq_true, Bool.not_eq_true'] at h
  have := anyI_false h.2 i x hx
  rwa [Nat.zero_add] at this
/-- What an atlas held to be good was, remains so when groups learn more. -/
theorem bad_mono {a b : TAtlas} {i : Nat} {x : TPlaces} (hp : prevM b i = prevM a i) (hk : ∀ g, late b i g = true → late a i g = true) (h : bad a i x = false) : bad b i x = false := by
  unfold bad at h ⊢
  rw [hp]
  simp only [Bool.or_eq_false_iff, Bool.and_eq_false_iff] at h ⊢
  refine ⟨h.1, h.2.imp id fun h2 => ?_⟩
  rw [List.any_eq_false] at h2 ⊢
  exact fun g hg hl => h2 g hg (hk g hl)
theorem getD_set {l : List Int} {n i : Nat} {v : Int} : (l.set n v).getD i 0 = if i = n ∧ n < l.length then v else l.getD i 0 := by
  rw [List.getD_eq_getElem?_getD, List.getD_eq_getElem?_getD, List.getElem?_set]
  by_cases h : n = i
  · subst h
    by_cases h2 : n < l.length
    · simp [h2]
    · simp [h2]
  · rw [if_neg h, if_neg (by intro hc; exact h hc.1.symm)]
theorem newAtlas_good {p : TPlaces} (h : (newAtlas p).2 = true) : goodAtlas (newAtlas p).1 = true := by
  unfold newAtlas at h ⊢
  split at h
  · cases h
  · rename_i hh
    rw [if_neg hh]
    refine atlas_mk ⟨Nat.le_refl 1, (show 1 ≤ 12 by decide)⟩ rfl (fun n hn => ?_) fun i x hx => ?_
    · simp at hn; subst hn; exact ⟨Int.le_refl _, (show (0 : Int) < 1 by decide)⟩
    · cases i with
      | zero =>
        simp only [List.getElem?_cons_zero, Option.some.injEq] at hx
        subst hx
        unfold bad
        have hg : goodPlaces p = true := by simpa using hh
        rw [hg]; rfl
      | succ i => simp at hx
theorem tellGroup_good {a : TAtlas} {g t : Int} (h : (tellGroup a g t).2 = true) : goodAtlas (tellGroup a g t).1 = true := by
  unfold tellGroup at h ⊢
  split at h
  · cases h
  · rename_i hh
    rw [if_neg hh]
    simp only [Bool.or_eq_true, Bool.not_eq_true', not_or, Bool.not_eq_false] at hh
    obtain ⟨⟨hg, _⟩, ht⟩ := hh
    have ht2 := wi_iff.1 ht
    obtain ⟨f1, f2, f3, f4⟩ := atlas_facts hg
    have hmx : ∀ y t : Int, y ≤ mx y t ∧ (mx y t = y ∨ mx y t = t) := fun y t => by unfold mx; split <;> omega
    refine atlas_mk ⟨f1, f2⟩ (by simp only [List.length_set]; exact f3) (fun n hn => ?_) fun i x hx => ?_
    · rcases List.mem_or_eq_of_mem_set hn with h | h
      · exact f4 n h
      · subst h
        have h1 := hmx (a.Knows.getD g.toNat 0) t
        have h2 : 0 ≤ a.Knows.getD g.toNat 0 ∧ a.Knows.getD g.toNat 0 < a.Maps.length := by
          rw [List.getD_eq_getElem?_getD]
          cases hx : a.Knows[g.toNat]? with
          | none => exact ⟨Int.le_refl _, by show (0 : Int) < _; omega⟩
          | some y => exact f4 y (List.mem_of_getElem? hx)
        show 0 ≤ mx _ t ∧ mx _ t < (a.Maps.length : Int)
        rcases h1.2 with h3 | h3 <;> omega
    · refine bad_mono (a := a) rfl (fun g2 hl => ?_) (atlas_bad hg hx)
      unfold late at hl ⊢
      simp only [decide_eq_true_eq] at hl ⊢
      rw [getD_set] at hl
      split at hl
      · rename_i hc; rw [hc.1]
        have := (hmx (a.Knows.getD g.toNat 0) t).1
        omega
      · exact hl
theorem setK_get : ∀ (gs ks : List Int) (n : Int) (i : Nat), (setK ks gs n).getD i 0 = ks.getD i 0 ∨ (setK ks gs n).getD i 0 = n
  | [], _, _, _ => .inl rfl
  | g :: gs, ks, n, i => by
    have h := setK_get gs (ks.set g.toNat n) n i
    have e : setK ks (g :: gs) n = setK (ks.set g.toNat n) gs n := rfl
    rw [e]
    rcases h with h | h
    · rw [h, getD_set]; split
      · exact .inr rfl
      · exact .inl rfl
    · exact .inr h
theorem setK_hit : ∀ (gs ks : List Int) (n g : Int), g ∈ gs → g.toNat < ks.length → (setK ks gs n).getD g.toNat 0 = n
  | [], _, _, _, h, _ => by simp at h
  | y :: gs, ks, n, g, h, hl => by
    have e : setK ks (y :: gs) n = setK (ks.set y.toNat n) gs n := rfl
    rw [e]
    by_cases hm : g ∈ gs
    · exact setK_hit gs (ks.set y.toNat n) n g hm (by rw [List.length_set]; exact hl)
    · rcases List.mem_cons.1 h with rfl | h
      · rcases setK_get gs (ks.set g.toNat n) n g.toNat with h2 | h2
        · rw [h2, getD_set, if_pos ⟨rfl, hl⟩]
        · exact h2
      · exact absurd h hm
theorem addMap_ok {a : TAtlas} {p : TPlaces} (h : (addMap a p).2 = true) : goodAtlas a = true ∧ goodPlaces p = true ∧ isNext (lastM a) p = true ∧ (addMap a p).1.Maps = a.Maps ++ [p] ∧ goodAtlas (addMap a p).1 = true := by
  unfold addMap at h ⊢
  split at h
  · cases h
  · rename_i hh
    rw [if_neg hh]
    simp only [Bool.or_eq_true, Bool.not_eq_true', not_or, Bool.not_eq_false, beq_iff_eq] at hh
    obtain ⟨⟨⟨hg, hl⟩, hp⟩, hn⟩ := hh
    obtain ⟨f1, f2, f3, f4⟩ := atlas_facts hg
    obtain ⟨hlm, hlg⟩ := lastM_good hg
    refine ⟨hg, hp, hn, rfl, atlas_mk ?_ ?_ (fun n hn2 => ?_) fun i x hx => ?_⟩
    · simp only [List.length_append, List.length_cons, List.length_nil]; omega
    · exact (setK_len _ _ _).trans f3
    · obtain ⟨i, hi⟩ := List.getElem?_of_mem hn2
      have hd : n = (setK a.Knows (changed (lastM a) p) a.Maps.length).getD i 0 := by rw [List.getD_eq_getElem?_getD, hi]; rfl
      have hil : i < a.Knows.length := by have := (List.getElem?_eq_some_iff.1 hi).1; rwa [setK_len] at this
      simp only [List.length_append, List.length_cons, List.length_nil]
      rcases setK_get (changed (lastM a) p) a.Knows a.Maps.length i with h1 | h1
      · rw [hd, h1]
        obtain ⟨y, hy⟩ := get_some hil
        have := f4 y (List.mem_of_getElem? hy)
        rw [List.getD_eq_getElem?_getD, hy]
        show 0 ≤ y ∧ y < _
        omega
      · rw [hd, h1]; omega
    · have hi : i < a.Maps.length + 1 := by have := (List.getElem?_eq_some_iff.1 hx).1; simpa using this
      rcases Nat.lt_or_ge i a.Maps.length with hlt | hge
      · simp only [] at hx
        rw [List.getElem?_append_left hlt] at hx
        refine bad_mono (a := a) ?_ (fun g2 hl2 => ?_) (atlas_bad hg hx)
        · unfold prevM
          simp only []
          rw [List.getD_eq_getElem?_getD, List.getD_eq_getElem?_getD, List.getElem?_append_left (by omega)]
        · unfold late at hl2 ⊢
          simp only [decide_eq_true_eq] at hl2 ⊢
          rcases setK_get (changed (lastM a) p) a.Knows a.Maps.length g2.toNat with h1 | h1
          · rw [h1] at hl2; exact hl2
          · rw [h1] at hl2; omega
      · obtain rfl : i = a.Maps.length := by omega
        simp only [] at hx
        rw [List.getElem?_append_right (Nat.le_refl _), Nat.sub_self, List.getElem?_cons_zero, Option.some.injEq] at hx
        subst hx
        have hpv : prevM ⟨a.Maps ++ [p], setK a.Knows (changed (lastM a) p) a.Maps.length⟩ a.Maps.length = lastM a := by
          unfold prevM lastM
          simp only []
          rw [List.getD_eq_getElem?_getD, List.getD_eq_getElem?_getD, List.getElem?_append_left (by omega)]
        unfold bad
        rw [hpv, hp, hn]
        simp only [Bool.not_true, Bool.and_false, Bool.false_or, Bool.or_false]
        rw [Bool.and_eq_false_iff]
        refine .inr ?_
        rw [List.any_eq_false]
        intro g hgm hlt
        have hgr := changed_range hlg hp g hgm
        have := setK_hit (changed (lastM a) p) a.Knows a.Maps.length g hgm (by omega)
        unfold late at hlt
        simp only [decide_eq_true_eq] at hlt
        omega
end Go.M
