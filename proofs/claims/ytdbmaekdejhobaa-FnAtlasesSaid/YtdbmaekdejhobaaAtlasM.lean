/- Plain functions: atlases (the shard maps after one another). -/
import Derived.Test.YtdbmaekdejhobaaPlacesM
set_option linter.unusedVariables false
set_option linter.unusedSimpArgs false
namespace Go.M
def chg : List Int → List Int → List Int
  | g :: a, h :: b => if (g != h) = true then g :: h :: chg a b else chg a b
  | _, _ => []
def gv : List Int → List Int → Nat → Int → Int
  | g :: a, h :: b, i, at' => gv a b (i + 1) (if (g != h) = true then (i : Int) else at')
  | _, _, _, at' => at'
theorem chg_snoc {x y : Int} : ∀ {a b : List Int} {i : Nat}, a[i]? = some x → b[i]? = some y → chg (a.take (i + 1)) (b.take (i + 1)) = chg (a.take i) (b.take i) ++ (if (x != y) = true then [x, y] else [])
  | [], _, i, h, _ => by simp at h
  | _ :: _, [], i, _, h => by simp at h
  | g :: a, h :: b, 0, hx, hy => by
    simp at hx hy; subst hx; subst hy
    simp only [List.take_succ_cons, List.take_zero]
    unfold chg chg
    by_cases hc : (g != h) = true <;> simp [hc]
  | g :: a, h :: b, i + 1, hx, hy => by
    have ih := chg_snoc (a := a) (b := b) (i := i) (by simpa using hx) (by simpa using hy)
    simp only [List.take_succ_cons]
    rw [chg, ih]
    conv => rhs; rw [chg]
    by_cases hc : (g != h) = true
    · rw [if_pos hc, if_pos hc]; simp
    · rw [if_neg hc, if_neg hc]
theorem chg_keep {x y : Int} {a b : List Int} {i : Nat} {β : Type} {f : Int → β} (hx : a[i]? = some x) (hy : b[i]? = some y) (h : (x != y) = true) : (chg (a.take i) (b.take i)).map f ++ [f x, f y] = (chg (a.take (i + 1)) (b.take (i + 1))).map f := by
  rw [chg_snoc hx hy, if_pos h]; simp
theorem chg_skip {x y : Int} {a b : List Int} {i : Nat} {β : Type} {f : Int → β} (hx : a[i]? = some x) (hy : b[i]? = some y) (h : (x != y) = false) : (chg (a.take i) (b.take i)).map f = (chg (a.take (i + 1)) (b.take (i + 1))).map f := by
  rw [chg_snoc hx hy, if_neg (by rw [h]; decide)]; simp
theorem chg_len : ∀ (a b : List Int), (chg a b).length ≤ 2 * a.length
  | g :: a, h :: b => by
    have := chg_len a b
    unfold chg
    split <;> simp only [List.length_cons] <;> omega
  | [], _ => by simp [chg]
  | _ :: _, [] => by simp [chg]
theorem chg_same : ∀ (a : List Int), chg a a = []
  | [] => rfl
  | g :: a => by unfold chg; simp [chg_same a]
theorem gv_same : ∀ (a : List Int) (i : Nat) (t : Int), gv a a i t = t
  | [], _, _ => rfl
  | g :: a, i, t => by unfold gv; simp [gv_same a]
theorem chg_set {k x : Int} : ∀ {a : List Int} {i : Nat}, a[i]? = some x → (x == k) = false → chg a (a.set i k) = [x, k]
  | [], i, h, _ => by simp at h
  | g :: a, 0, h, hk => by
    simp at h; subst h
    simp only [List.set_cons_zero]
    unfold chg
    rw [if_pos (by rw [bne, hk]; rfl), chg_same]
  | g :: a, i + 1, h, hk => by
    simp only [List.set_cons_succ]
    unfold chg
    rw [if_neg (by simp), chg_set (by simpa using h) hk]
theorem gv_set {k x : Int} : ∀ {a : List Int} {i : Nat} {j : Nat} {t : Int}, a[i]? = some x → (x == k) = false → gv a (a.set i k) j t = ((j + i : Nat) : Int)
  | [], i, _, _, h, _ => by simp at h
  | g :: a, 0, j, t, h, hk => by
    simp at h; subst h
    simp only [List.set_cons_zero]
    unfold gv
    rw [if_pos (by rw [bne, hk]; rfl), gv_same]; rfl
  | g :: a, i + 1, j, t, h, hk => by
    simp only [List.set_cons_succ]
    unfold gv
    rw [if_neg (by simp), gv_set (by simpa using h) hk]
    congr 1; omega
theorem chg_mem {x : Int} : ∀ {a b : List Int}, x ∈ chg a b → x ∈ a ∨ x ∈ b
  | g :: a, h :: b, hx => by
    unfold chg at hx
    by_cases hc : (g != h) = true
    · rw [if_pos hc] at hx
      simp only [List.mem_cons] at hx ⊢
      rcases hx with hx | hx | hx
      · exact .inl (.inl hx)
      · exact .inr (.inl hx)
      · rcases chg_mem hx with h1 | h1
        · exact .inl (.inr h1)
        · exact .inr (.inr h1)
    · rw [if_neg hc] at hx
      rcases chg_mem hx with h1 | h1
      · exact .inl (List.mem_cons_of_mem _ h1)
      · exact .inr (List.mem_cons_of_mem _ h1)
  | [], _, hx => by simp [chg] at hx
  | _ :: _, [], hx => by simp [chg] at hx
theorem gv_step {x y t : Int} {a b : List Int} {i : Nat} (hx : a[i]? = some x) (hy : b[i]? = some y) : gv (a.drop i) (b.drop i) i t = gv (a.drop (i + 1)) (b.drop (i + 1)) (i + 1) (if (x != y) = true then (i : Int) else t) := by
  rw [Go.AV.drop_some hx, Go.AV.drop_some hy, gv]
theorem gv_lt : ∀ {a b : List Int} {j : Nat} {t : Int}, t < j → gv a b j t < ((j + a.length : Nat) : Int)
  | g :: a, h :: b, j, t, ht => by
    unfold gv
    have := gv_lt (a := a) (b := b) (j := j + 1) (t := if (g != h) = true then (j : Int) else t) (by split <;> omega)
    simp only [List.length_cons]
    omega
  | [], _, j, t, ht => by simp only [gv, List.length_nil]; omega
  | _ :: _, [], j, t, ht => by simp only [gv, List.length_cons]; omega
def changed (a b : TPlaces) : List Int := if (!decide (a.Cuts = b.Cuts)) = true then [] else chg a.Groups b.Groups
def gave (a b : TPlaces) : Int := gv a.Groups b.Groups 0 (-1)
def concerned (a b : TPlaces) : List Int := if ((a.Groups.length : Int) != (b.Groups.length : Int)) = true then [] else if decide (gave a b < 0) = true then [] else [gAt a (gave a b), gAt b (gave a b)]
theorem concerned_len (a b : TPlaces) : (concerned a b).length ≤ 2 := by
  unfold concerned
  split
  · simp
  · split <;> simp
theorem good_len {a b : TPlaces} (ha : goodPlaces a = true) (hb : goodPlaces b = true) (h : a.Cuts = b.Cuts) : a.Groups.length = b.Groups.length := by
  have h1 := (good_facts ha).2.2.2.1
  have h2 := (good_facts hb).2.2.2.1
  rw [h1, h2, h]
theorem good_groups {p : TPlaces} (h : goodPlaces p = true) : ∀ g ∈ p.Groups, 0 ≤ g ∧ g < 4 := fun g hg => by
  rw [goodPlaces_eq] at h
  unfold goodPlacesS at h
  simp only [Bool.and_eq_true, List.all_eq_true] at h
  have := h.2.2 g hg
  unfold within at this
  simp only [Bool.and_eq_true, decide_eq_true_eq] at this
  omega
theorem changed_range {a b : TPlaces} (ha : goodPlaces a = true) (hb : goodPlaces b = true) : ∀ g ∈ changed a b, 0 ≤ g ∧ g < 4 := fun g hg => by
  unfold changed at hg
  split at hg
  · simp at hg
  · rcases chg_mem hg with h | h
    · exact good_groups ha g h
    · exact good_groups hb g h
theorem nextP_hit {p b : TPlaces} (h : hit (nextP p) b = true) : b.Cuts = p.Cuts ∧ b.Groups = p.Groups := by
  unfold hit nextP at h
  split at h
  · simp at h
  · unfold samePlaces bump at h
    simp only [Bool.and_eq_true, decide_eq_true_eq, true_and] at h
    exact ⟨h.1.2.symm, h.2.symm⟩
theorem no_hit {b : TPlaces} : hit (noPlaces, false) b = false := rfl
theorem law_len {a b : TPlaces} (ha : goodPlaces a = true) (hb : goodPlaces b = true) (h : a.Cuts.length ≠ b.Cuts.length) : changed a b = concerned a b := by
  have h1 := (good_facts ha).2.2.2.1
  have h2 := (good_facts hb).2.2.2.1
  unfold changed concerned
  rw [if_pos (by have : a.Cuts ≠ b.Cuts := fun e => h (by rw [e]); simp [this]), if_pos (by simp only [bne_iff_ne, ne_eq]; omega)]
theorem law_give {a b : TPlaces} {i : Nat} {k : Int} (h : hit (giveTo a i k) b = true) : changed a b = concerned a b := by
  unfold giveTo at h
  split at h
  · rw [no_hit] at h; cases h
  · rename_i hn
    simp only [Bool.or_eq_true, not_or, Bool.not_eq_true'] at hn
    obtain ⟨hr, hg⟩ := hn
    have hr1 := isRange_facts (show isRange a i = true by revert hr; cases isRange a i <;> simp)
    obtain ⟨hc, hgr⟩ := nextP_hit h
    obtain ⟨x, hx⟩ := Go.AV.get_some (show i < a.Groups.length by omega)
    have hxk : (x == k) = false := by
      have h9 : gAt a i = x := by unfold gAt; rw [Int.toNat_natCast, List.getD_eq_getElem?_getD, hx]; rfl
      rw [h9] at hg
      revert hg; cases x == k <;> simp
    have hgb : b.Groups = a.Groups.set i k := by rw [hgr]; simp [setP]
    have hgv : gave a b = (i : Int) := by unfold gave; rw [hgb, gv_set hx hxk]; congr 1; omega
    unfold changed concerned
    rw [if_neg (by rw [hc]; simp [setP]), if_neg (by rw [hgb]; simp), hgv, if_neg (by simp), hgb, chg_set hx hxk]
    unfold gAt
    rw [hgb, Int.toNat_natCast, List.getD_eq_getElem?_getD, hx, List.getD_eq_getElem?_getD, List.getElem?_set_self (by omega)]
    rfl
theorem anyI_some {α : Type} {f : Nat → α → Bool} : ∀ {l : List α} {k : Nat}, anyI f l k = true → ∃ i x, l[i]? = some x ∧ f (k + i) x = true
  | [], _, h => by simp [anyI] at h
  | x :: l, k, h => by
    unfold anyI at h
    simp only [Bool.or_eq_true] at h
    rcases h with h | h
    · exact ⟨0, x, rfl, h⟩
    · obtain ⟨i, y, h1, h2⟩ := anyI_some h
      exact ⟨i + 1, y, by simpa using h1, by rw [show k + (i + 1) = k + 1 + i by omega]; exact h2⟩
theorem changed_eq {a b : TPlaces} (ha : goodPlaces a = true) (hb : goodPlaces b = true) (h : isNext a b = true) : changed a b = concerned a b := by
  unfold isNext at h
  simp only [Bool.or_eq_true, List.any_eq_true] at h
  rcases h with ⟨k, _, h⟩ | h
  · refine law_len ha hb ?_
    unfold splitAt at h
    split at h
    · rw [no_hit] at h; cases h
    · have hc := (nextP_hit h).1
      have hn := partOf_le a.Cuts k
      rw [hc]
      simp [insP]
      omega
  · obtain ⟨i, x, hx, h⟩ := anyI_some h
    rw [Nat.zero_add] at h
    unfold nextAt at h
    simp only [Bool.or_eq_true] at h
    rcases h with h | h
    · refine law_len ha hb ?_
      unfold joinAt at h
      split at h
      · rw [no_hit] at h; cases h
      · rename_i hn
        simp only [Bool.or_eq_true, not_or, Bool.not_eq_true'] at hn
        have hr1 := isRange_facts (show isRange a (i + 1) = true by revert hn; cases isRange a (i + 1) <;> simp)
        have h4 := (good_facts ha).2.2.2.1
        have hc := (nextP_hit h).1
        have hl : b.Cuts.length = a.Cuts.length - 1 := by
          rw [hc]; simp only [delP, Int.toNat_natCast]
          rw [List.length_eraseIdx, if_pos (by omega)]
        omega
    · unfold ra at h
      obtain ⟨j, _, h⟩ := List.any_eq_true.1 h
      simp only [Bool.and_eq_true] at h
      exact law_give h.2
def ownersOf (a : TAtlas) (key : Str) : List Int := a.Maps.map fun p => gAt p (partOf p.Cuts key)
def ownersOfS (a : TAtlas) (key : Str) : List Int := a.Maps.map fun p => gAt p (rangeS p.Cuts key)
def prevM (a : TAtlas) (i : Nat) : TPlaces := a.Maps.getD (i - 1) noPlaces
def late (a : TAtlas) (i : Nat) (g : Int) : Bool := decide (a.Knows.getD g.toNat 0 < (i : Int))
def bad (a : TAtlas) (i : Nat) (p : TPlaces) : Bool := (!goodPlaces p || (decide (0 < (i : Int)) && !isNext (prevM a i) p)) || (decide (0 < (i : Int)) && (changed (prevM a i) p).any (late a i))
def badS (a : TAtlas) (i : Nat) (p : TPlaces) : Bool := (!goodPlacesS p || !isNextS (prevM a i) p) || (concerned (prevM a i) p).any (late a i)
def goodAtlas (a : TAtlas) : Bool := (within a.Maps.length 1 12 && ((a.Knows.length : Int) == 4) && !(a.Knows.any fun n => !within n 0 ((a.Maps.length : Int) - 1))) && !anyI (bad a) a.Maps 0
def goodAtlasS (a : TAtlas) : Bool := (within a.Maps.length 1 12 && ((a.Knows.length : Int) == 4) && (a.Knows.all fun n => within n 0 ((a.Maps.length : Int) - 1)) && goodPlacesS (a.Maps.getD 0 noPlaces)) && !anyI (badS a) (a.Maps.drop 1) 1
theorem prev_get {a : TAtlas} {i : Nat} {x : TPlaces} (h : a.Maps[i - 1]? = some x) : prevM a i = x := by unfold prevM; rw [List.getD_eq_getElem?_getD, h]; rfl
theorem any_bad_eq (a : TAtlas) : ∀ (l : List TPlaces) (k : Nat), l = a.Maps.drop k → 0 < k → goodPlaces (prevM a k) = true → anyI (bad a) l k = anyI (badS a) l k
  | [], _, _, _, _ => rfl
  | p :: l, k, hl, hk, hg => by
    have hp : a.Maps[k]? = some p := by
      have : (a.Maps.drop k)[0]? = some p := by rw [← hl]; rfl
      simpa using this
    have hl2 : l = a.Maps.drop (k + 1) := by rw [Go.AV.drop_some hp] at hl; injection hl
    unfold anyI
    have hd : decide (0 < (k : Int)) = true := by simp; omega
    have hb : bad a k p = badS a k p := by
      unfold bad badS
      rw [hd, Bool.true_and, Bool.true_and, goodPlaces_eq, isNext_eq, ← goodPlaces_eq, ← isNext_eq]
      cases h1 : goodPlaces p with
      | false => rfl
      | true =>
        cases h2 : isNext (prevM a k) p with
        | false => rfl
        | true => rw [changed_eq hg h1 h2]
    rw [hb]
    cases h3 : badS a k p with
    | true => rfl
    | false =>
      have h1 : goodPlaces p = true := by
        unfold badS at h3
        rw [← goodPlaces_eq] at h3
        cases h4 : goodPlaces p with
        | true => rfl
        | false => rw [h4] at h3; simp at h3
      rw [Bool.false_or, Bool.false_or]
      exact any_bad_eq a l (k + 1) hl2 (by omega) (by rw [prev_get (x := p) (by simpa using hp)]; exact h1)
theorem goodAtlas_eq (a : TAtlas) : goodAtlas a = goodAtlasS a := by
  unfold goodAtlas goodAtlasS
  rw [List.not_any_eq_all_not]
  have h2 : (a.Knows.all fun n => !!within n 0 ((a.Maps.length : Int) - 1)) = a.Knows.all fun n => within n 0 ((a.Maps.length : Int) - 1) := by congr 1; funext g; rw [Bool.not_not]
  rw [h2]
  cases h1 : within a.Maps.length 1 12 with
  | false => rfl
  | true =>
    obtain ⟨p, hp⟩ := Go.AV.get_some (show 0 < a.Maps.length by unfold within at h1; simp only [Bool.and_eq_true, decide_eq_true_eq] at h1; omega)
    have hd : a.Maps = p :: a.Maps.drop 1 := by have := Go.AV.drop_some hp; simpa using this
    have hg : a.Maps.getD 0 noPlaces = p := by rw [List.getD_eq_getElem?_getD, hp]; rfl
    have hu : anyI (bad a) a.Maps 0 = (bad a 0 p || anyI (bad a) (a.Maps.drop 1) 1) := by rw [hd]; rfl
    rw [hg, hu]
    have hb : bad a 0 p = !goodPlaces p := by unfold bad; simp
    rw [hb, ← goodPlaces_eq]
    cases h3 : goodPlaces p with
    | false => simp
    | true => rw [any_bad_eq a _ 1 rfl (by omega) (by rw [prev_get (x := p) (by simpa using hp)]; exact h3)]; simp
theorem pre_t {A B C : Bool} (h : ((!A || !B) || C) = true) : (A && B && !C) = false := by revert h; cases A <;> cases B <;> cases C <;> decide
theorem pre_f {A B C : Bool} (h : ((!A || !B) || C) = false) : (A && B && !C) = true := by revert h; cases A <;> cases B <;> cases C <;> decide
theorem preS_t {A B C D : Bool} (h : (((!A || !B) || !C) || !D) = true) : (A && B && C && D) = false := by revert h; cases A <;> cases B <;> cases C <;> cases D <;> decide
theorem preS_f {A B C D : Bool} (h : (((!A || !B) || !C) || !D) = false) : (A && B && C && D) = true := by revert h; cases A <;> cases B <;> cases C <;> cases D <;> decide
theorem anyI_false {α : Type} {f : Nat → α → Bool} : ∀ {l : List α} {k : Nat}, anyI f l k = false → ∀ i x, l[i]? = some x → f (k + i) x = false
  | [], _, _, i, x, hx => by simp at hx
  | y :: l, k, h, i, x, hx => by
    unfold anyI at h
    simp only [Bool.or_eq_false_iff] at h
    cases i with
    | zero => simp at hx; subst hx; exact h.1
    | succ i => rw [show k + (i + 1) = k + 1 + i by omega]; exact anyI_false h.2 i x (by simpa using hx)
theorem good_maps {a : TAtlas} (h : goodAtlas a = true) {i : Nat} {x : TPlaces} (hx : a.Maps[i]? = some x) : goodPlaces x = true := by
  unfold goodAtlas at h
  simp only [Bool.and_eq_true, Bool.not_eq_true'] at h
  have := anyI_false h.2 i x hx
  unfold bad at this
  simp only [Bool.or_eq_false_iff, Bool.not_eq_false'] at this
  exact this.1.1
theorem atlas_facts {a : TAtlas} (h : goodAtlas a = true) : 1 ≤ a.Maps.length ∧ a.Maps.length ≤ 12 ∧ a.Knows.length = 4 ∧ ∀ n ∈ a.Knows, 0 ≤ n ∧ n < a.Maps.length := by
  rw [goodAtlas_eq] at h
  unfold goodAtlasS at h
  simp only [Bool.and_eq_true, beq_iff_eq, List.all_eq_true] at h
  obtain ⟨⟨⟨⟨h1, h2⟩, h3⟩, _⟩, _⟩ := h
  unfold within at h1 h3
  simp only [Bool.and_eq_true, decide_eq_true_eq] at h1 h3
  refine ⟨by omega, by omega, by omega, fun n hn => ?_⟩
  have := h3 n hn
  omega
def ownersOfR (a : TAtlas) (key : Str) : List Int × Bool := if (!goodAtlas a || !goodKey key) = true then ([], false) else (ownersOf a key, true)
def ownersOfRS (a : TAtlas) (key : Str) : List Int × Bool := if (!goodAtlasS a || !l3Key key) = true then ([], false) else (ownersOfS a key, true)
theorem ownersOf_eq (a : TAtlas) (key : Str) : ownersOfR a key = ownersOfRS a key := by
  unfold ownersOfR ownersOfRS
  rw [← goodAtlas_eq, ← goodKey_eq]
  cases hg : goodAtlas a with
  | false => rfl
  | true =>
    have : ownersOf a key = ownersOfS a key := List.map_congr_left fun p hp => by
      obtain ⟨i, hi⟩ := List.getElem?_of_mem hp
      rw [partOf_eq key (good_facts (good_maps hg hi)).2.2.2.2.1]
    rw [this]
theorem map_snoc {α β : Type} {l : List α} {i : Nat} {x : α} (f : α → β) (h : l[i]? = some x) : (l.take i).map f ++ [f x] = (l.take (i + 1)).map f := by rw [List.take_add_one, h, List.map_append]; rfl
theorem map_snoc2 {α β γ : Type} {l : List α} {i : Nat} {x : α} (f : α → β) (g : β → γ) (h : l[i]? = some x) : ((l.take i).map f).map g ++ [g (f x)] = ((l.take (i + 1)).map f).map g := by rw [← map_snoc f h, List.map_append]; rfl
def newAtlas (p : TPlaces) : TAtlas × Bool := if (!goodPlaces p) = true then (⟨[], []⟩, false) else (⟨[p], [0, 0, 0, 0]⟩, true)
def newAtlasS (p : TPlaces) : TAtlas × Bool := if (!goodPlacesS p) = true then (⟨[], []⟩, false) else (⟨[p], [0, 0, 0, 0]⟩, true)
theorem newAtlas_eq (p : TPlaces) : newAtlas p = newAtlasS p := by unfold newAtlas newAtlasS; rw [goodPlaces_eq]
def mx (y t : Int) : Int := if t > y then t else y
def tellGroup (a : TAtlas) (g t : Int) : TAtlas × Bool := if (!goodAtlas a || !isGroup g || !within t 0 ((a.Maps.length : Int) - 1)) = true then (⟨[], []⟩, false) else (⟨a.Maps, a.Knows.set g.toNat (mx (a.Knows.getD g.toNat 0) t)⟩, true)
def tellGroupS (a : TAtlas) (g t : Int) : TAtlas × Bool := if (!goodAtlasS a || !within g 0 3 || !within t 0 ((a.Maps.length : Int) - 1)) = true then (⟨[], []⟩, false) else (⟨a.Maps, a.Knows.set g.toNat (mx (a.Knows.getD g.toNat 0) t)⟩, true)
theorem tellGroup_eq (a : TAtlas) (g t : Int) : tellGroup a g t = tellGroupS a g t := by unfold tellGroup tellGroupS isGroup; rw [goodAtlas_eq]
def setK (ks : List Int) (gs : List Int) (n : Int) : List Int := gs.foldl (fun ks g => ks.set g.toNat n) ks
theorem setK_step {ks gs : List Int} {n g : Int} {j : Nat} (h : gs[j]? = some g) : (setK ks (gs.take j) n).set g.toNat n = setK ks (gs.take (j + 1)) n := by
  unfold setK; rw [List.take_add_one, h, List.foldl_append]; rfl
theorem setK_len : ∀ (gs ks : List Int) (n : Int), (setK ks gs n).length = ks.length
  | [], _, _ => rfl
  | g :: gs, ks, n => by unfold setK; simp only [List.foldl_cons]; have := setK_len gs (ks.set g.toNat n) n; unfold setK at this; rw [this, List.length_set]
def lastM (a : TAtlas) : TPlaces := a.Maps.getD (a.Maps.length - 1) noPlaces
def addMap (a : TAtlas) (p : TPlaces) : TAtlas × Bool := if (!goodAtlas a || ((a.Maps.length : Int) == 12) || !goodPlaces p || !isNext (lastM a) p) = true then (⟨[], []⟩, false) else (⟨a.Maps ++ [p], setK a.Knows (changed (lastM a) p) a.Maps.length⟩, true)
def addMapS (a : TAtlas) (p : TPlaces) : TAtlas × Bool := if (!goodAtlasS a || !goodPlacesS p || decide ((12 : Int) ≤ (a.Maps.length : Int)) || !isNextS (lastM a) p) = true then (⟨[], []⟩, false) else (⟨a.Maps ++ [p], setK a.Knows (concerned (lastM a) p) a.Maps.length⟩, true)
theorem lastM_good {a : TAtlas} (h : goodAtlas a = true) : a.Maps[a.Maps.length - 1]? = some (lastM a) ∧ goodPlaces (lastM a) = true := by
  have h1 := (atlas_facts h).1
  have h2 : a.Maps[a.Maps.length - 1]? = some (lastM a) := by unfold lastM; rw [List.getD_eq_getElem?_getD, List.getElem?_eq_getElem (by omega)]; rfl
  exact ⟨h2, good_maps h h2⟩
theorem addMap_eq (a : TAtlas) (p : TPlaces) : addMap a p = addMapS a p := by
  unfold addMap addMapS
  rw [← goodAtlas_eq, ← goodPlaces_eq, ← isNext_eq]
  cases hg : goodAtlas a with
  | false => rfl
  | true =>
    cases hp : goodPlaces p with
    | false => simp
    | true =>
      have h12 := (atlas_facts hg).2.1
      have e : ((a.Maps.length : Int) == 12) = decide ((12 : Int) ≤ (a.Maps.length : Int)) := by
        rw [Bool.eq_iff_iff]; simp only [beq_iff_eq, decide_eq_true_eq]; omega
      rw [e]
      cases hn : isNext (lastM a) p with
      | false => simp
      | true => rw [changed_eq (lastM_good hg).2 hp hn]; cases decide ((12 : Int) ≤ (a.Maps.length : Int)) <;> rfl
theorem map_size {a : TAtlas} {i : Nat} {x : TPlaces} {m : Nat} (h : a.size ≤ m) (hx : a.Maps[i]? = some x) : x.size ≤ m := by
  unfold TAtlas.size at h
  have := sizeL_get (f := TPlaces.size) hx
  omega
end Go.M
