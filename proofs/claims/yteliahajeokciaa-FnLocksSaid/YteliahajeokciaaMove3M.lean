/- Plain functions: reading a migration, acts. -/
import Derived.Test.YteliahajeokciaaMove2M
set_option linter.unusedVariables false
set_option linter.unusedSimpArgs false
namespace Go.M
theorem bytesLess_trans : ∀ {a b c : Str}, Op.bytesLess a b = true → Op.bytesLess b c = true → Op.bytesLess a c = true
  | [], b, c, h1, h2 => by
    cases c with
    | nil => cases b <;> simp [Op.bytesLess] at h2
    | cons z c => rfl
  | x :: a, [], _, h1, _ => by simp [Op.bytesLess] at h1
  | x :: a, y :: b, [], _, h2 => by simp [Op.bytesLess] at h2
  | x :: a, y :: b, z :: c, h1, h2 => by
    simp only [Op.bytesLess, Bool.or_eq_true, Bool.and_eq_true, decide_eq_true_eq, beq_iff_eq] at h1 h2 ⊢
    rcases h1 with h1 | ⟨h1, h1'⟩
    · rcases h2 with h2 | ⟨h2, _⟩
      · exact .inl (UInt8.lt_trans h1 h2)
      · subst h2; exact .inl h1
    · subst h1
      rcases h2 with h2 | ⟨h2, h2'⟩
      · exact .inl h2
      · exact .inr ⟨h2, bytesLess_trans h1' h2'⟩
theorem cmpStr_neg (a b : Str) : cmpStr a b < 0 ↔ Op.bytesLess a b = true := by
  unfold cmpStr
  cases h1 : Op.bytesLess a b
  · cases h2 : Op.bytesLess b a <;> simp
  · simp
theorem cmpStr_zero (a b : Str) : cmpStr a b = 0 ↔ a = b := by
  unfold cmpStr
  have h3 := bytesLess_tri a b
  cases h1 : Op.bytesLess a b
  · cases h2 : Op.bytesLess b a
    · rw [h1, h2] at h3; simp at h3; simp [h3]
    · simp; intro h; subst h; rw [h1] at h2; cases h2
  · simp; intro h; subst h; rw [bytesLess_irrefl] at h1; cases h1
/-- Where each element is below the next, it is below all that follow. -/
theorem adj_all {α : Type} {p : α → α → Bool} (tr : ∀ a b c, p a b = true → p b c = true → p a c = true) : ∀ {l : List α} {x : α}, adj p (x :: l) = true → ∀ y ∈ l, p x y = true
  | [], _, _, y, hy => by simp at hy
  | z :: l, x, h, y, hy => by
    simp only [adj, Bool.and_eq_true] at h
    rcases List.mem_cons.1 hy with rfl | hy
    · exact h.1
    · exact tr _ _ _ h.1 (adj_all tr h.2 y hy)
theorem adj_tail {α : Type} {p : α → α → Bool} {l : List α} {x : α} (h : adj p (x :: l) = true) : adj p l = true := by
  cases l with
  | nil => rfl
  | cons y l => simp only [adj, Bool.and_eq_true] at h; exact h.2
theorem adj_get {α : Type} {p : α → α → Bool} (tr : ∀ a b c, p a b = true → p b c = true → p a c = true) : ∀ {l : List α}, adj p l = true → ∀ {i j : Nat} {x y : α}, i < j → l[i]? = some x → l[j]? = some y → p x y = true
  | [], _, i, j, x, y, _, hx, _ => by simp at hx
  | z :: l, h, 0, j + 1, x, y, _, hx, hy => by
    simp at hx; subst hx
    exact adj_all tr h y (List.mem_of_getElem? (by simpa using hy))
  | z :: l, h, i + 1, j + 1, x, y, hij, hx, hy => adj_get tr (adj_tail h) (by omega : i < j) (by simpa using hx) (by simpa using hy)
/-- What the search by halves finds. -/
theorem bs_spec {α : Type} (f : α → Int) (l : List α) (down : ∀ (i j : Nat) (x y : α), i < j → l[i]? = some x → l[j]? = some y → f y < 0 → f x < 0) : ∀ (d i j : Nat), j - i = d → i ≤ j → j ≤ l.length →
    (∀ k x, k < i → l[k]? = some x → f x < 0) → (∀ x, l[j]? = some x → ¬ f x < 0) → (∀ k x, k < bs f l i j → l[k]? = some x → f x < 0) ∧ (∀ x, l[bs f l i j]? = some x → ¬ f x < 0) := by
  intro d
  induction d using Nat.strongRecOn with
  | _ d ih =>
    intro i j hd hij hjl hlo hhi
    by_cases h : i < j
    · obtain ⟨x, hx⟩ := Go.AV.get_some (show (i + j) / 2 < l.length by omega)
      by_cases hf : f x < 0
      · rw [bs_lo h hx hf]
        refine ih (j - ((i + j) / 2 + 1)) (by omega) _ _ rfl (by omega) hjl (fun k y hk hy => ?_) hhi
        rcases Nat.lt_or_ge k ((i + j) / 2) with h1 | h1
        · exact down k _ y x h1 hy hx hf
        · have : k = (i + j) / 2 := by omega
          subst this
          rw [hx] at hy; injection hy with hy; subst hy; exact hf
      · rw [bs_hi h hx hf]
        exact ih ((i + j) / 2 - i) (by omega) _ _ rfl (by omega) (by omega) hlo (fun y hy => by rw [hx] at hy; injection hy with hy; subst hy; exact hf)
    · rw [bs_end h]
      have : i = j := by omega
      subst this
      exact ⟨hlo, hhi⟩
def wCmp (k : Str) (w : TWrite) : Int := cmpStr w.Key k
def wPos (l : List TWrite) (k : Str) : Nat := bs (wCmp k) l 0 l.length
def wHas (l : List TWrite) (k : Str) : Bool := bsAt (wCmp k) l (wPos l k)
theorem wLess_trans (a b c : TWrite) (h : wLess a b = true) (k : wLess b c = true) : wLess a c = true := bytesLess_trans h k
theorem wPos_spec {l : List TWrite} (h : adj wLess l = true) (k : Str) : (∀ i x, i < wPos l k → l[i]? = some x → Op.bytesLess x.Key k = true) ∧ (∀ x, l[wPos l k]? = some x → Op.bytesLess x.Key k = false) := by
  have := bs_spec (wCmp k) l (fun i j x y hij hx hy hf => by
    unfold wCmp at *
    rw [cmpStr_neg] at *
    exact bytesLess_trans (adj_get wLess_trans h hij hx hy) hf) l.length 0 l.length rfl (Nat.zero_le _) (Nat.le_refl _) (fun k x hk => by omega) (fun x hx => by rw [List.getElem?_eq_none (Nat.le_refl _)] at hx; cases hx)
  refine ⟨fun i x hi hx => (cmpStr_neg _ _).1 (this.1 i x hi hx), fun x hx => ?_⟩
  have h2 := this.2 x hx
  unfold wCmp at h2
  rw [cmpStr_neg] at h2
  simpa using h2
/-- The first write of a key. -/
def findW (l : List TWrite) (k : Str) : Option TWrite := l.find? fun w => w.Key == k
theorem findW_eq {l : List TWrite} (h : adj wLess l = true) (k : Str) : findW l k = if wHas l k = true then l[wPos l k]? else none := by
  obtain ⟨h1, h2⟩ := wPos_spec h k
  have hat : ∀ w ∈ l, w.Key = k → l[wPos l k]? = some w := fun w hw he => by
    obtain ⟨i, hi⟩ := List.getElem?_of_mem hw
    rcases Nat.lt_trichotomy i (wPos l k) with hlt | heq | hgt
    · have := h1 i w hlt hi
      rw [he, bytesLess_irrefl] at this; cases this
    · rw [← heq]; exact hi
    · obtain ⟨y, hy⟩ := Go.AV.get_some (show wPos l k < l.length by have := (List.getElem?_eq_some_iff.1 hi).1; omega)
      have h3 := h2 y hy
      have h4 := adj_get wLess_trans h hgt hy hi
      unfold wLess at h4
      rw [he, h3] at h4; cases h4
  unfold wHas bsAt findW
  cases hp : l[wPos l k]? with
  | none =>
    simp only [Bool.false_eq_true, if_false]
    rw [List.find?_eq_none]
    intro w hw
    simp only [beq_iff_eq]
    intro he
    have := hat w hw he
    rw [hp] at this; cases this
  | some y =>
    simp only [wCmp, beq_iff_eq, cmpStr_zero]
    by_cases hk : y.Key = k
    · rw [if_pos hk]
      cases hf : l.find? fun w => w.Key == k with
      | none =>
        have := List.find?_eq_none.1 hf y (List.mem_of_getElem? hp)
        simp [hk] at this
      | some w =>
        have h5 := List.find?_some hf
        have h6 := hat w (List.mem_of_find?_eq_some hf) (by simpa using h5)
        rw [hp] at h6; exact h6.symm
    · rw [if_neg hk, List.find?_eq_none]
      intro w hw
      simp only [beq_iff_eq]
      intro he
      have := hat w hw he
      rw [hp] at this; injection this with this; subst this; exact hk he
def gotOf (l : List TWrite) (k : Str) : TGot := if wHas l k = true then (match l[wPos l k]? with | some w => ⟨k, w.Val, true⟩ | none => ⟨k, [], true⟩) else ⟨k, [], false⟩
def readMove (m : TMove) (k : Str) : Str × Bool × Int × Bool :=
  if (!goodMove m || !goodKey k || !inRange m.Low m.High k) = true then ([], false, 0, false)
  else ((gotOf (if m.Phase = 2 then m.To else m.From) k).Val, (gotOf (if m.Phase = 2 then m.To else m.From) k).There, m.Phase, true)
def readRes (o : Option TWrite) (p : Int) : Str × Bool × Int × Bool := match o with
  | some w => (w.Val, true, p, true)
  | none => ([], false, p, true)
def readMoveS (m : TMove) (k : Str) : Str × Bool × Int × Bool :=
  if (!goodMoveS m || !l3Key k || !inRange m.Low m.High k) = true then ([], false, 0, false)
  else readRes (findW (if m.Phase = 2 then m.To else m.From) k) m.Phase
theorem rows_adj {m : TMove} {l : List TWrite} (h : areInRange m l = true) : adj wLess l = true := by
  unfold areInRange isRows at h
  simp only [Bool.and_eq_true] at h
  have h1 := h.1.1
  rw [goodWrites_eq] at h1
  unfold l3Writes at h1
  simp only [Bool.and_eq_true] at h1
  exact h1.1.2
theorem goodMove_rows {m : TMove} (h : goodMove m = true) : areEnds m.Low m.High = true ∧ areInRange m m.From = true ∧ areInRange m m.To = true := by
  unfold goodMove at h
  split at h
  · cases h
  · rename_i hh
    simpa [Bool.or_eq_true, not_or, and_assoc] using hh
theorem readMove_eq (m : TMove) (k : Str) : readMove m k = readMoveS m k := by
  unfold readMove readMoveS
  rw [goodMove_eq, goodKey_eq]
  split
  · rfl
  · rename_i hh
    have hg : goodMove m = true := by
      rw [goodMove_eq]
      cases h : goodMoveS m
      · rw [h] at hh; simp at hh
      · rfl
    obtain ⟨_, h1, h2⟩ := goodMove_rows hg
    have ha : adj wLess (if m.Phase = 2 then m.To else m.From) = true := by split; exact rows_adj h2; exact rows_adj h1
    generalize (if m.Phase = 2 then m.To else m.From) = l at *
    rw [findW_eq ha]
    unfold gotOf
    cases hw : wHas l k
    · simp [readRes]
    · simp only [if_true]
      unfold wHas bsAt at hw
      cases hp : l[wPos l k]? with
      | none => rw [hp] at hw; cases hw
      | some w => rfl
def noWrite : TWrite := ⟨[], [], false⟩
def wEq (a b : TWrite) : Bool := (a.Key == b.Key) && ((a.Val == b.Val) && ((a.Gone == b.Gone) && true))
theorem wEq_dec (a b : TWrite) : wEq a b = decide (a = b) := by
  unfold wEq; cases a; cases b; simp only [TWrite.mk.injEq, Bool.and_true]
  rw [Bool.eq_iff_iff]; simp
def isMoveAct (m : TMove) (a : TMoveAct) : Bool :=
  if a.Kind = 1 then (a.Many == 0) && goodWrites [a.Write] && inRange m.Low m.High a.Write.Key
  else if a.Kind = 2 then wEq a.Write noWrite && within a.Many 1 24
  else if a.Kind = 3 ∨ a.Kind = 4 then wEq a.Write noWrite && (a.Many == 0)
  else false
def l22Good (m : TMove) (a : TMoveAct) : Bool :=
  if a.Kind = 1 then l3Write a.Write.Key a.Write.Val a.Write.Gone && inRange m.Low m.High a.Write.Key && (a.Many == 0)
  else if a.Kind = 2 then wEq a.Write noWrite && within a.Many 1 24
  else if a.Kind = 3 ∨ a.Kind = 4 then wEq a.Write noWrite && (a.Many == 0)
  else false
theorem isMoveAct_eq (m : TMove) (a : TMoveAct) : isMoveAct m a = l22Good m a := by
  unfold isMoveAct l22Good
  have h : goodWrites [a.Write] = l3Write a.Write.Key a.Write.Val a.Write.Gone := by
    rw [goodWrites_eq]; unfold l3Writes wGood; simp [adj]
  rw [h]
  split
  · cases (a.Many == 0) <;> cases l3Write a.Write.Key a.Write.Val a.Write.Gone <;> cases inRange m.Low m.High a.Write.Key <;> rfl
  · rfl
end Go.M
