/- Plain functions: shard maps, their changes. -/
import Derived.Test.YteliahajeokciaaMove3M
set_option linter.unusedVariables false
set_option linter.unusedSimpArgs false
namespace Go.M
def goodPlaces (p : TPlaces) : Bool := within p.Ver 0 50 && decide ((p.Cuts.length : Int) ≤ 4) && areRising p.Cuts && ((p.Groups.length : Int) == (p.Cuts.length : Int) + 1) && !(p.Groups.any fun g => !isGroup g)
def goodPlacesS (p : TPlaces) : Bool := (p.Cuts.all l3Key && adj Op.bytesLess p.Cuts) && (within p.Ver 0 50 && decide ((p.Cuts.length : Int) ≤ 4) && ((p.Groups.length : Int) == (p.Cuts.length : Int) + 1) && p.Groups.all fun g => within g 0 3)
theorem goodPlaces_eq (p : TPlaces) : goodPlaces p = goodPlacesS p := by
  unfold goodPlaces goodPlacesS areRising isGroup
  rw [List.not_any_eq_all_not]
  have h1 : p.Cuts.all goodKey = p.Cuts.all l3Key := by congr 1; funext k; exact goodKey_eq k
  have h2 : (p.Groups.all fun g => !!within g 0 3) = p.Groups.all fun g => within g 0 3 := by congr 1; funext g; rw [Bool.not_not]
  rw [h1, h2]
  cases p.Cuts.all l3Key <;> cases adj Op.bytesLess p.Cuts <;> cases within p.Ver 0 50 <;> cases decide ((p.Cuts.length : Int) ≤ 4) <;> cases ((p.Groups.length : Int) == (p.Cuts.length : Int) + 1) <;> simp
theorem good_facts {p : TPlaces} (h : goodPlaces p = true) : 0 ≤ p.Ver ∧ p.Ver ≤ 50 ∧ p.Cuts.length ≤ 4 ∧ p.Groups.length = p.Cuts.length + 1 ∧ adj Op.bytesLess p.Cuts = true ∧ p.Cuts.all goodKey = true := by
  unfold goodPlaces areRising within at h
  simp only [Bool.and_eq_true, decide_eq_true_eq, beq_iff_eq] at h
  obtain ⟨⟨⟨⟨⟨h1, h2⟩, h3⟩, h4, h5⟩, h6⟩, _⟩ := h
  exact ⟨h1, h2, by omega, by omega, h5, h4⟩
def sle (a b : Str) : Bool := Op.bytesLess a b || a == b
def partOf (cuts : List Str) (key : Str) : Nat := (cuts.filter fun c => sle c key).length
def rangeS (cuts : List Str) (key : Str) : Nat := (cuts.takeWhile fun c => sle c key).length
theorem sle_trans {a b c : Str} (h : Op.bytesLess a b = true) (k : sle b c = true) : sle a c = true := by
  unfold sle at *
  simp only [Bool.or_eq_true, beq_iff_eq] at *
  rcases k with k | k
  · exact .inl (bytesLess_trans h k)
  · subst k; exact .inl h
theorem partOf_eq (key : Str) : ∀ {cuts : List Str}, adj Op.bytesLess cuts = true → partOf cuts key = rangeS cuts key
  | [], _ => rfl
  | c :: cuts, h => by
    have ih := partOf_eq key (adj_tail h)
    unfold partOf rangeS at *
    cases hc : sle c key with
    | true => simp [hc, ih]
    | false =>
      have hall : ∀ d ∈ cuts, sle d key = false := fun d hd => by
        have := adj_all (p := Op.bytesLess) (fun a b c h1 h2 => bytesLess_trans h1 h2) h d hd
        cases hk : sle d key with
        | false => rfl
        | true => rw [sle_trans this hk] at hc; cases hc
      have hf : cuts.filter (fun c => sle c key) = [] := List.filter_eq_nil_iff.2 fun d hd => by rw [hall d hd]; simp
      simp [hc, hf]
theorem partOf_le (cuts : List Str) (key : Str) : partOf cuts key ≤ cuts.length := List.length_filter_le _ _
theorem rangeS_le (cuts : List Str) (key : Str) : rangeS cuts key ≤ cuts.length := by
  unfold rangeS
  exact (List.takeWhile_sublist _).length_le
theorem tw_at {α : Type} {p : α → Bool} : ∀ {l : List α} {i : Nat} {x : α}, (l.takeWhile p).length = i → l[i]? = some x → p x = false
  | [], i, x, _, h => by simp at h
  | y :: l, i, x, h, hx => by
    cases hy : p y with
    | false => simp [hy] at h; subst h; simp at hx; subst hx; exact hy
    | true =>
      simp [hy] at h
      subst h
      exact tw_at rfl (by simpa using hx)
theorem tw_ge {α : Type} {p : α → Bool} {l : List α} {i : Nat} {x : α} (h : i ≤ (l.takeWhile p).length) (hx : l[i]? = some x) (hp : p x = true) : i + 1 ≤ (l.takeWhile p).length := by
  rcases Nat.lt_or_ge i (l.takeWhile p).length with h1 | h1
  · exact h1
  · have := tw_at (p := p) (l := l) (i := i) (x := x) (by omega) hx; rw [this] at hp; cases hp
theorem tw_eq {α : Type} {p : α → Bool} : ∀ {l : List α} {i : Nat} {x : α}, i ≤ (l.takeWhile p).length → l[i]? = some x → p x = false → (l.takeWhile p).length = i
  | [], i, x, _, hx, _ => by simp at hx
  | y :: l, i, x, h, hx, hp => by
    cases hy : p y with
    | false => simp [hy] at h ⊢; omega
    | true =>
      simp [hy] at h ⊢
      cases i with
      | zero => simp at hx; subst hx; rw [hy] at hp; cases hp
      | succ i => have := tw_eq (l := l) (i := i) (by omega) (by simpa using hx) hp; omega
def noPlaces : TPlaces := ⟨0, [], []⟩
def gAt (p : TPlaces) (i : Int) : Int := p.Groups.getD i.toNat 0
def isRange (p : TPlaces) (i : Int) : Bool := goodPlaces p && within i 0 ((p.Groups.length : Int) - 1)
theorem isRange_facts {p : TPlaces} {i : Int} (h : isRange p i = true) : goodPlaces p = true ∧ 0 ≤ i ∧ i < p.Groups.length := by
  unfold isRange within at h
  simp only [Bool.and_eq_true, decide_eq_true_eq] at h
  exact ⟨h.1, h.2.1, by omega⟩
def bump (p : TPlaces) : TPlaces := ⟨p.Ver + 1, p.Cuts, p.Groups⟩
def nextP (p : TPlaces) : TPlaces × Bool := if (!goodPlaces (bump p)) = true then (noPlaces, false) else (bump p, true)
def nextS (p : TPlaces) : TPlaces × Bool := if (!goodPlacesS (bump p)) = true then (noPlaces, false) else (bump p, true)
theorem nextP_eq (p : TPlaces) : nextP p = nextS p := by unfold nextP nextS; rw [goodPlaces_eq]
def insP (p : TPlaces) (n : Nat) (key : Str) : TPlaces := ⟨p.Ver, p.Cuts.take n ++ key :: p.Cuts.drop n, p.Groups.take n ++ p.Groups.getD n 0 :: p.Groups.drop n⟩
def splitAt (p : TPlaces) (key : Str) : TPlaces × Bool := if (!goodPlaces p || !goodKey key || p.Cuts.any fun x => key == x) = true then (noPlaces, false) else nextP (insP p (partOf p.Cuts key) key)
def splitAtS (p : TPlaces) (key : Str) : TPlaces × Bool := if (!goodPlacesS p || !l3Key key || p.Cuts.any (fun x => key == x) || decide (4 ≤ (p.Cuts.length : Int))) = true then (noPlaces, false) else nextS (insP p (rangeS p.Cuts key) key)
def delP (p : TPlaces) (n : Nat) : TPlaces := ⟨p.Ver, p.Cuts.eraseIdx n, p.Groups.eraseIdx n⟩
def joinAt (p : TPlaces) (i : Int) : TPlaces × Bool := if (!isRange p i || !isRange p (i + 1) || gAt p i != gAt p (i + 1)) = true then (noPlaces, false) else nextP (delP p i.toNat)
def joinAtS (p : TPlaces) (i : Int) : TPlaces × Bool := if (!goodPlacesS p || !within i 0 ((p.Cuts.length : Int) - 1) || gAt p i != gAt p (i + 1)) = true then (noPlaces, false) else nextS (delP p i.toNat)
def setP (p : TPlaces) (n : Nat) (g : Int) : TPlaces := ⟨p.Ver, p.Cuts, p.Groups.set n g⟩
def giveTo (p : TPlaces) (i g : Int) : TPlaces × Bool := if (!isRange p i || !isGroup g || gAt p i == g) = true then (noPlaces, false) else nextP (setP p i.toNat g)
def giveToS (p : TPlaces) (i g : Int) : TPlaces × Bool := if (!goodPlacesS p || !within i 0 ((p.Groups.length : Int) - 1) || !within g 0 3 || gAt p i == g) = true then (noPlaces, false) else nextS (setP p i.toNat g)
theorem splitAt_eq (p : TPlaces) (key : Str) : splitAt p key = splitAtS p key := by
  unfold splitAt splitAtS
  rw [← goodPlaces_eq, ← goodKey_eq]
  cases hg : goodPlaces p with
  | false => simp
  | true =>
    obtain ⟨_, _, h3, h4, h5, _⟩ := good_facts hg
    rw [← partOf_eq key h5]
    by_cases h : (!goodKey key || p.Cuts.any fun x => key == x) = true
    · rw [if_pos (by simpa using h), if_pos (by simp only [Bool.not_true, Bool.false_or, Bool.or_eq_true] at h ⊢; exact .inl h)]
    · rw [if_neg (by simpa using h)]
      by_cases h6 : 4 ≤ (p.Cuts.length : Int)
      · rw [if_pos (by simp [h6])]
        unfold nextP
        rw [if_pos]
        have hn := partOf_le p.Cuts key
        have : goodPlaces (bump (insP p (partOf p.Cuts key) key)) = false := by
          cases hgg : goodPlaces (bump (insP p (partOf p.Cuts key) key)) with
          | false => rfl
          | true =>
            have := (good_facts hgg).2.2.1
            simp [bump, insP] at this
            omega
        rw [this]; rfl
      · rw [if_neg (by simp only [Bool.not_true, Bool.false_or, Bool.or_eq_true, not_or] at h ⊢; exact ⟨h, by simpa using h6⟩), nextP_eq]
theorem joinAt_eq (p : TPlaces) (i : Int) : joinAt p i = joinAtS p i := by
  unfold joinAt joinAtS isRange
  rw [← goodPlaces_eq]
  cases hg : goodPlaces p with
  | false => simp
  | true =>
    obtain ⟨_, _, _, h4, _⟩ := good_facts hg
    have hc : (!within i 0 ((p.Groups.length : Int) - 1) || !within (i + 1) 0 ((p.Groups.length : Int) - 1)) = !within i 0 ((p.Cuts.length : Int) - 1) := by
      unfold within
      rw [Bool.eq_iff_iff]
      simp only [Bool.or_eq_true, Bool.not_eq_true', Bool.and_eq_false_iff, decide_eq_false_iff_not]
      omega
    simp only [Bool.true_and, Bool.not_true, Bool.false_or]
    rw [hc, nextP_eq]
theorem giveTo_eq (p : TPlaces) (i g : Int) : giveTo p i g = giveToS p i g := by
  unfold giveTo giveToS isRange isGroup
  rw [← goodPlaces_eq, nextP_eq]
  cases goodPlaces p <;> simp [Bool.or_assoc]
def samePlaces (a b : TPlaces) : Bool := (a.Ver == b.Ver) && decide (a.Cuts = b.Cuts) && decide (a.Groups = b.Groups)
def hit (r : TPlaces × Bool) (b : TPlaces) : Bool := r.2 && samePlaces r.1 b
def anyI {α : Type} (f : Nat → α → Bool) : List α → Nat → Bool
  | [], _ => false
  | x :: l, k => f k x || anyI f l (k + 1)
theorem anyI_congr {α : Type} {f g : Nat → α → Bool} : ∀ (l : List α) (k : Nat), (∀ i x, l[i]? = some x → f (k + i) x = g (k + i) x) → anyI f l k = anyI g l k
  | [], _, _ => rfl
  | x :: l, k, h => by
    unfold anyI
    have h2 := anyI_congr (f := f) (g := g) l (k + 1) fun i y hy => by
      have h9 := h (i + 1) y (by simpa using hy)
      have e : k + (i + 1) = k + 1 + i := by omega
      rw [e] at h9
      exact h9
    have h3 : f k x = g k x := h 0 x rfl
    rw [h3, h2]
def ra (f : Int → Bool) (k : Nat) : Bool := (List.range' k (4 - k)).any fun j => f (j : Int)
theorem ra_step {f : Int → Bool} {k : Nat} (h : k < 4) : ra f k = (f k || ra f (k + 1)) := by
  unfold ra
  rw [show 4 - k = (4 - (k + 1)) + 1 by omega, List.range'_succ]
  rfl
theorem ra_end {f : Int → Bool} {k : Nat} (h : 4 ≤ k) : ra f k = false := by
  unfold ra
  rw [show 4 - k = 0 by omega]
  rfl
def nextAt (a b : TPlaces) (i : Nat) (g : Int) : Bool := hit (joinAt a i) b || ra (fun k => k != g && hit (giveTo a i k) b) 0
def isNext (a b : TPlaces) : Bool := b.Cuts.any (fun k => hit (splitAt a k) b) || anyI (nextAt a b) a.Groups 0
def nextAtS (a b : TPlaces) (i : Nat) (_ : Int) : Bool := hit (joinAtS a i) b || ra (fun k => hit (giveToS a i k) b) 0
def isNextS (a b : TPlaces) : Bool := b.Cuts.any (fun k => hit (splitAtS a k) b) || anyI (nextAtS a b) a.Groups 0
theorem give_self {a b : TPlaces} {i : Nat} {g : Int} (h : a.Groups[i]? = some g) : hit (giveTo a i g) b = false := by
  unfold hit giveTo gAt
  have : (a.Groups.getD (i : Int).toNat 0 == g) = true := by
    rw [Int.toNat_natCast, List.getD_eq_getElem?_getD, h]; simp
  rw [this]
  simp
theorem isNext_eq (a b : TPlaces) : isNext a b = isNextS a b := by
  unfold isNext isNextS
  have h1 : (fun k => hit (splitAt a k) b) = fun k => hit (splitAtS a k) b := by funext k; rw [splitAt_eq]
  rw [h1]
  congr 1
  refine anyI_congr _ _ fun i g hg => ?_
  rw [Nat.zero_add]
  unfold nextAt nextAtS
  rw [joinAt_eq]
  congr 2
  funext k
  rw [← giveTo_eq]
  by_cases hk : k = g
  · subst hk; rw [give_self hg]; simp
  · simp [hk]
def isNextR (a b : TPlaces) : Bool × Bool := if (!goodPlaces a || !goodPlaces b) = true then (false, false) else (isNext a b, true)
def isNextRS (a b : TPlaces) : Bool × Bool := if (!goodPlacesS a || !goodPlacesS b) = true then (false, false) else (isNextS a b, true)
theorem isNextR_eq (a b : TPlaces) : isNextR a b = isNextRS a b := by unfold isNextR isNextRS; rw [goodPlaces_eq, goodPlaces_eq, isNext_eq]
theorem sizeL_ins {α : Type} (f : α → Nat) (l : List α) (n : Nat) (x : α) : sizeL f (l.take n ++ x :: l.drop n) = sizeL f l + f x + 1 := by
  have h : ((l.take n).map f).sum + ((l.drop n).map f).sum = (l.map f).sum := by
    rw [← List.sum_append, ← List.map_append, List.take_append_drop]
  unfold sizeL
  simp only [List.length_append, List.length_cons, List.map_append, List.map_cons, List.sum_append, List.sum_cons, List.length_take, List.length_drop]
  omega
theorem sum_sub {a b : List Nat} (h : List.Sublist a b) : a.sum ≤ b.sum := by
  induction h with
  | slnil => exact Nat.le_refl _
  | cons x _ ih => simp; omega
  | cons_cons x _ ih => simp; omega
theorem sizeL_sub {α : Type} {f : α → Nat} {l m : List α} (h : List.Sublist m l) : sizeL f m ≤ sizeL f l := by
  unfold sizeL
  have h1 := h.length_le
  have h2 : (m.map f).sum ≤ (l.map f).sum := sum_sub (h.map f)
  omega
theorem insC_eq {β : Type} {f : Str → β} (l : List Str) (n : Nat) (x : Str) : (([] : List β) ++ (l.take n).map f ++ [f x] ++ (l.drop n).map f) = (l.take n ++ x :: l.drop n).map f := by simp
theorem insG_eq {β : Type} {f : Int → β} {l : List Int} {n : Nat} {y : Int} (h : l[n]? = some y) : ((l.take (n + 1)).map f ++ [f y] ++ (l.drop (n + 1)).map f) = (l.take n ++ l.getD n 0 :: l.drop n).map f := by
  rw [List.getD_eq_getElem?_getD, h, List.take_add_one, h, Go.AV.drop_some h]; simp
theorem delC_eq {α β : Type} {f : α → β} (l : List α) (n : Nat) : (([] : List β) ++ (l.take n).map f ++ (l.drop (n + 1)).map f) = (l.eraseIdx n).map f := by
  rw [List.eraseIdx_eq_take_drop_succ]; simp
theorem bump_size (p : TPlaces) : (bump p).size = p.size := rfl
theorem insP_size (p : TPlaces) (n : Nat) (key : Str) : (insP p n key).size = p.size + key.length + 2 := by
  unfold TPlaces.size insP
  rw [sizeL_ins]
  simp only [List.length_append, List.length_cons, List.length_take, List.length_drop]
  omega
theorem delP_size (p : TPlaces) (n : Nat) : (delP p n).size ≤ p.size := by
  unfold TPlaces.size delP
  have h1 := sizeL_sub (f := fun x : Str => x.length) (List.eraseIdx_sublist p.Cuts n)
  have h2 := (List.eraseIdx_sublist p.Groups n).length_le
  exact Nat.add_le_add h1 h2
theorem setP_size (p : TPlaces) (n : Nat) (g : Int) : (setP p n g).size = p.size := by unfold TPlaces.size setP; rw [List.length_set]
end Go.M
