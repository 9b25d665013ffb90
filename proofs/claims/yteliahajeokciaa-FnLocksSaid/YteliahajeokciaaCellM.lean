/- Plain law: cells with versions: good ones, lookups, snapshots, writes put in. -/
import Derived.Test.YteliahajeokciaaMove3M
set_option linter.unusedVariables false
set_option linter.unusedSimpArgs false
namespace Go.M
open Go.AV
def isTrue (t : Int) : Bool := within t 0 100000
def verGood (v : TVer) : Bool := isTime v.Time && isStored v.Val v.Gone
def verLess (a b : TVer) : Bool := decide (a.Time < b.Time)
def isCell (c : TCell) : Bool := (c.Vers.all verGood && adj verLess c.Vers) && within c.Vers.length 1 16
def cKeys (l : List TCell) : List Str := l.map TCell.Key
def goodCells (l : List TCell) : Bool := l.all isCell && (decide ((l.length : Int) ≤ 24) && areRising (cKeys l))
def verGoodS (k : Str) (v : TVer) : Bool := within v.Time 1 100000 && l3Write k v.Val v.Gone
def l3Cell (c : TCell) : Bool := (c.Vers.all (verGoodS c.Key) && adj verLess c.Vers) && (l3Key c.Key && within c.Vers.length 1 16)
def cLess (a b : TCell) : Bool := Op.bytesLess a.Key b.Key
def l3Good (l : List TCell) : Bool := (l.all l3Cell && adj cLess l) && decide ((l.length : Int) ≤ 24)
theorem cell_eq (c : TCell) : (isCell c && goodKey c.Key) = l3Cell c := by
  unfold isCell l3Cell
  rw [goodKey_eq, Bool.eq_iff_iff]
  simp only [Bool.and_eq_true, List.all_eq_true]
  have key : ∀ v : TVer, l3Key c.Key = true → (verGood v = true ↔ verGoodS c.Key v = true) := fun v hk => by
    unfold verGood verGoodS isTime l3Write
    rw [isStored_eq, hk, Bool.true_and]
  constructor
  · rintro ⟨⟨⟨h1, h2⟩, h3⟩, h4⟩
    exact ⟨⟨fun v hv => (key v h4).1 (h1 v hv), h2⟩, h4, h3⟩
  · rintro ⟨⟨h1, h2⟩, h4, h3⟩
    exact ⟨⟨⟨fun v hv => (key v h4).2 (h1 v hv), h2⟩, h3⟩, h4⟩
theorem goodCells_eq (l : List TCell) : goodCells l = l3Good l := by
  unfold goodCells l3Good areRising cKeys
  rw [adj_map, Bool.eq_iff_iff]
  simp only [Bool.and_eq_true, List.all_eq_true, List.mem_map, forall_exists_index, and_imp, forall_apply_eq_imp_iff₂]
  constructor
  · rintro ⟨h1, h2, h3, h4⟩
    exact ⟨⟨fun c hc => by rw [← cell_eq, h1 c hc, h3 c hc]; rfl, h4⟩, h2⟩
  · rintro ⟨⟨h1, h4⟩, h2⟩
    have h5 : ∀ c ∈ l, isCell c = true ∧ goodKey c.Key = true := fun c hc => by
      have := h1 c hc
      rw [← cell_eq] at this
      simpa using this
    exact ⟨fun c hc => (h5 c hc).1, h2, fun c hc => (h5 c hc).2, h4⟩
theorem goodCells_facts {l : List TCell} (h : goodCells l = true) : l.length ≤ 24 ∧ adj cLess l = true ∧ ∀ c ∈ l, goodKey c.Key = true ∧ 1 ≤ c.Vers.length ∧ c.Vers.length ≤ 16 ∧ adj verLess c.Vers = true ∧ ∀ v ∈ c.Vers, verGood v = true := by
  have h0 := h
  rw [goodCells_eq] at h
  unfold l3Good at h
  simp only [Bool.and_eq_true, List.all_eq_true, decide_eq_true_eq] at h
  refine ⟨by omega, h.1.2, fun c hc => ?_⟩
  have hcell := h.1.1 c hc
  rw [← cell_eq] at hcell
  simp only [Bool.and_eq_true] at hcell
  obtain ⟨h1, h2⟩ := hcell
  unfold isCell at h1
  simp only [Bool.and_eq_true, List.all_eq_true] at h1
  have h3 := h1.2
  unfold within at h3
  simp at h3
  exact ⟨h2, by omega, by omega, h1.1.2, h1.1.1⟩
/-! ### Where a key's cell is -/
def cCmp (k : Str) (c : TCell) : Int := cmpStr c.Key k
def cPos (l : List TCell) (k : Str) : Nat := bs (cCmp k) l 0 l.length
def cHas (l : List TCell) (k : Str) : Bool := bsAt (cCmp k) l (cPos l k)
theorem cLess_trans (a b c : TCell) (h : cLess a b = true) (k : cLess b c = true) : cLess a c = true := bytesLess_trans h k
theorem cPos_spec {l : List TCell} (h : adj cLess l = true) (k : Str) : (∀ i x, i < cPos l k → l[i]? = some x → Op.bytesLess x.Key k = true) ∧ (∀ x, l[cPos l k]? = some x → Op.bytesLess x.Key k = false) := by
  have := bs_spec (cCmp k) l (fun i j x y hij hx hy hf => by
    unfold cCmp at *
    rw [cmpStr_neg] at *
    exact bytesLess_trans (adj_get cLess_trans h hij hx hy) hf) l.length 0 l.length rfl (Nat.zero_le _) (Nat.le_refl _) (fun k x hk => by omega) (fun x hx => by rw [List.getElem?_eq_none (Nat.le_refl _)] at hx; cases hx)
  refine ⟨fun i x hi hx => (cmpStr_neg _ _).1 (this.1 i x hi hx), fun x hx => ?_⟩
  have h2 := this.2 x hx
  unfold cCmp at h2
  rw [cmpStr_neg] at h2
  simpa using h2
theorem bs_le' {α : Type} (f : α → Int) (l : List α) : ∀ (d i j : Nat), j - i = d → i ≤ j → j ≤ l.length → bs f l i j ≤ j := by
  intro d
  induction d using Nat.strongRecOn with
  | _ d ih =>
    intro i j hd hij hjl
    by_cases h : i < j
    · obtain ⟨x, hx⟩ := Go.AV.get_some (show (i + j) / 2 < l.length by omega)
      by_cases hf : f x < 0
      · rw [bs_lo h hx hf]
        exact ih (j - ((i + j) / 2 + 1)) (by omega) _ _ rfl (by omega) hjl
      · rw [bs_hi h hx hf]
        exact Nat.le_trans (ih ((i + j) / 2 - i) (by omega) _ _ rfl (by omega) (by omega)) (by omega)
    · rw [bs_end h]; exact hij
theorem cPos_le (l : List TCell) (k : Str) : cPos l k ≤ l.length := bs_le' _ _ _ _ _ rfl (Nat.zero_le _) (Nat.le_refl _)
theorem cHas_iff {l : List TCell} {k : Str} : cHas l k = true ↔ ∃ x, l[cPos l k]? = some x ∧ x.Key = k := by
  unfold cHas bsAt
  cases h : l[cPos l k]? with
  | none => simp
  | some x => simp [cCmp, cmpStr_zero]
/-- The cell of a key. -/
def findC (l : List TCell) (k : Str) : Option TCell := l.find? fun c => c.Key == k
theorem cell_uniq {l : List TCell} (ha : adj cLess l = true) {i j : Nat} {a b : TCell} (hi : l[i]? = some a) (hj : l[j]? = some b) (hk : a.Key = b.Key) : i = j := by
  rcases Nat.lt_trichotomy i j with hlt | heq | hgt
  · have h9 := adj_get cLess_trans ha hlt hi hj
    unfold cLess at h9; rw [hk, bytesLess_irrefl] at h9; cases h9
  · exact heq
  · have h9 := adj_get cLess_trans ha hgt hj hi
    unfold cLess at h9; rw [hk, bytesLess_irrefl] at h9; cases h9
theorem findC_at {l : List TCell} (ha : adj cLess l = true) {i : Nat} {c : TCell} (hc : l[i]? = some c) : findC l c.Key = some c := by
  unfold findC
  cases hf : l.find? (fun x => x.Key == c.Key) with
  | none => have := List.find?_eq_none.1 hf c (List.mem_of_getElem? hc); simp at this
  | some d =>
    have h1 := List.find?_some hf
    obtain ⟨j, hj⟩ := List.getElem?_of_mem (List.mem_of_find?_eq_some hf)
    have := cell_uniq ha hj hc (by simpa using h1)
    subst this
    rw [hc] at hj; exact hj.symm
theorem findC_eq {l : List TCell} (h : adj cLess l = true) (k : Str) : findC l k = if cHas l k = true then l[cPos l k]? else none := by
  split
  · rename_i hh
    obtain ⟨x, hx, hk⟩ := cHas_iff.1 hh
    rw [hx, ← hk]; exact findC_at h hx
  · rename_i hh
    unfold findC
    rw [List.find?_eq_none]
    intro c hc hk
    simp only [beq_iff_eq] at hk
    obtain ⟨i, hi⟩ := List.getElem?_of_mem hc
    obtain ⟨h1, h2⟩ := cPos_spec h k
    rcases Nat.lt_trichotomy i (cPos l k) with hlt | heq | hgt
    · have := h1 i c hlt hi
      rw [hk, bytesLess_irrefl] at this; cases this
    · subst heq; exact hh (cHas_iff.2 ⟨c, hi, hk⟩)
    · obtain ⟨y, hy⟩ := Go.AV.get_some (show cPos l k < l.length by have := (List.getElem?_eq_some_iff.1 hi).1; omega)
      have h3 := h2 y hy
      have h4 := adj_get cLess_trans h hgt hy hi
      unfold cLess at h4
      rw [hk, h3] at h4; cases h4
def atC (l : List TCell) (k : Str) : Int := match l.findIdx? (fun c => c.Key == k) with
  | some i => (i : Int)
  | none => -1
theorem atC_some {l : List TCell} {k : Str} {i : Nat} {x : TCell} (hx : l[i]? = some x) (hk : x.Key = k) (h : ∀ j y, j < i → l[j]? = some y → y.Key ≠ k) : atC l k = (i : Int) := by
  have hl := (List.getElem?_eq_some_iff.1 hx)
  have : l.findIdx? (fun c => c.Key == k) = some i := by
    rw [List.findIdx?_eq_some_iff_getElem]
    refine ⟨hl.1, by rw [hl.2]; simp [hk], fun j hj => ?_⟩
    have hl1 := hl.1
    simpa using h j _ hj (List.getElem?_eq_getElem (show j < l.length by omega))
  unfold atC; rw [this]
theorem atC_none {l : List TCell} {k : Str} (h : ∀ (j : Nat) (y : TCell), l[j]? = some y → y.Key ≠ k) : atC l k = -1 := by
  have : l.findIdx? (fun c => c.Key == k) = none := by
    rw [List.findIdx?_eq_none_iff]
    intro x hx
    obtain ⟨j, hj⟩ := List.getElem?_of_mem hx
    simpa using h j x hj
  unfold atC; rw [this]
theorem atC_neg {l : List TCell} {k : Str} (h : atC l k < 0) : findC l k = none := by
  unfold atC at h
  cases hf : l.findIdx? (fun c => c.Key == k) with
  | some i => rw [hf] at h; simp at h; omega
  | none =>
    rw [List.findIdx?_eq_none_iff] at hf
    unfold findC
    rw [List.find?_eq_none]
    intro c hc; simp [hf c hc]
theorem atC_pos {l : List TCell} {k : Str} (h : ¬ atC l k < 0) : ∃ (p : Nat) (c : TCell), atC l k = (p : Int) ∧ l[p]? = some c ∧ findC l k = some c := by
  cases hf : l.findIdx? (fun c => c.Key == k) with
  | none => exfalso; unfold atC at h; rw [hf] at h; exact h (by decide)
  | some i =>
    have he : atC l k = (i : Int) := by unfold atC; rw [hf]
    rw [List.findIdx?_eq_some_iff_getElem] at hf
    obtain ⟨h1, h2, h3⟩ := hf
    refine ⟨i, l[i], he, List.getElem?_eq_getElem h1, ?_⟩
    unfold findC
    rw [List.find?_eq_some_iff_getElem]
    exact ⟨h2, i, h1, rfl, fun j hj => by simpa using h3 j hj⟩
def lastV (c : TCell) : Int := match c.Vers.getLast? with
  | some v => v.Time
  | none => 0
def lastTime (l : List TCell) (k : Str) : Int := match findC l k with
  | some c => lastV c
  | none => 0
/-! ### A cell's value at a time -/
def cellVal (c : TCell) (t : Int) : Str × Bool := match c.Vers.reverse.find? (fun v => decide (v.Time ≤ t)) with
  | some v => (v.Val, !v.Gone)
  | none => ([], false)
def cellAt (l : List TCell) (k : Str) (t : Int) : Str × Bool := match findC l k with
  | some c => cellVal c t
  | none => ([], false)
def cellsAt (l : List TCell) (t : Int) : List TWrite := l.filterMap fun c => if (cellVal c t).2 = true then some ⟨c.Key, (cellVal c t).1, false⟩ else none
def lastTimeR (l : List TCell) (k : Str) : Int × Bool := if (!goodCells l || !goodKey k) = true then (0, false) else (lastTime l k, true)
def cellAtR (l : List TCell) (k : Str) (t : Int) : Str × Bool × Bool := if (!goodCells l || !goodKey k || !isTrue t) = true then ([], false, false) else ((cellAt l k t).1, (cellAt l k t).2, true)
def cellsAtR (l : List TCell) (t : Int) : List TWrite × Bool := if (!goodCells l || !isTrue t) = true then ([], false) else (cellsAt l t, true)
/-! ### Writes put in -/
def insC : List TCell → Str → TVer → List TCell
  | [], k, v => [⟨k, [v]⟩]
  | c :: l, k, v => if Op.bytesLess c.Key k = true then c :: insC l k v else if c.Key = k then ⟨k, c.Vers ++ [v]⟩ :: l else ⟨k, [v]⟩ :: c :: l
theorem insC_at {k : Str} {v : TVer} : ∀ {l : List TCell} {p : Nat}, p ≤ l.length → (∀ i x, i < p → l[i]? = some x → Op.bytesLess x.Key k = true) → (∀ x, l[p]? = some x → Op.bytesLess x.Key k = false) →
    (∀ x, l[p]? = some x → x.Key = k → insC l k v = l.set p ⟨k, x.Vers ++ [v]⟩) ∧ ((∀ x, l[p]? = some x → x.Key ≠ k) → insC l k v = l.take p ++ ⟨k, [v]⟩ :: l.drop p)
  | [], p, hp, _, _ => by simp at hp; subst hp; exact ⟨fun x hx => by simp at hx, fun _ => rfl⟩
  | c :: l, 0, _, _, h2 => by
    have h := h2 c rfl
    unfold insC
    rw [h, if_neg (by decide)]
    refine ⟨fun x hx hk => ?_, fun hn => ?_⟩
    · simp at hx; subst hx; rw [if_pos hk]; rfl
    · rw [if_neg (hn c rfl)]; rfl
  | c :: l, p + 1, hp, h1, h2 => by
    have h := h1 0 c (by omega) rfl
    obtain ⟨i1, i2⟩ := insC_at (k := k) (v := v) (l := l) (p := p) (by simpa using hp) (fun i y hi hy => h1 (i + 1) y (by omega) (by simpa using hy)) (fun y hy => h2 y (by simpa using hy))
    unfold insC
    rw [if_pos h]
    refine ⟨fun x hx hk => ?_, fun hn => ?_⟩
    · rw [i1 x (by simpa using hx) hk]; rfl
    · rw [i2 fun x hx => hn x (by simpa using hx)]; rfl
def putC1 (l : List TCell) (x : TWrite) (t : Int) : List TCell := insC l x.Key ⟨t, x.Val, x.Gone⟩
def putAll (l : List TCell) : List TWrite → Int → Option (List TCell)
  | [], _ => some l
  | x :: w, t => if decide (t ≤ lastTime l x.Key) = true then none else putAll (putC1 l x t) w t
def putCells (l : List TCell) (w : List TWrite) (t : Int) : List TCell × Bool := match putAll l w t with
  | none => ([], false)
  | some out => if (!goodCells out) = true then ([], false) else (out, true)
def putCellsR (l : List TCell) (w : List TWrite) (t : Int) : List TCell × Bool := if (!goodCells l || !goodWrites w || !isTime t) = true then ([], false) else putCells l w t
/-- The cells while writes are put in: keys rise, no cell is empty. -/
def CellsOk (l : List TCell) : Prop := adj cLess l = true ∧ ∀ c ∈ l, 1 ≤ c.Vers.length
theorem cellsOk_good {l : List TCell} (h : goodCells l = true) : CellsOk l := ⟨(goodCells_facts h).2.1, fun c hc => ((goodCells_facts h).2.2 c hc).2.1⟩
def putP (l : List TCell) (w : List TWrite) (t : Int) : List TCell × Bool := match putAll l w t with
  | none => ([], false)
  | some out => (out, l3Good out)
theorem putCells_eq (l : List TCell) (w : List TWrite) (t : Int) : putCells l w t = if (!(putP l w t).2) = true then ([], false) else ((putP l w t).1, true) := by
  unfold putCells putP
  cases putAll l w t with
  | none => rfl
  | some out => simp only; rw [goodCells_eq]
def putCellsS (l : List TCell) (w : List TWrite) (t : Int) : List TCell × Bool := if (!l3Good l || !l3Writes w || !within t 1 100000) = true then ([], false) else putCells l w t
theorem putCellsR_eq (l : List TCell) (w : List TWrite) (t : Int) : putCellsR l w t = putCellsS l w t := by
  unfold putCellsR putCellsS
  rw [goodCells_eq, goodWrites_eq]; rfl
def TCell.ocs (c : TCell) (x : Value) : List AV := [AV.str c.Key, AV.is x]
theorem insC_head (d : TCell) : ∀ (l : List TCell) (k : Str) (v : TVer), ∃ c r, insC (d :: l) k v = c :: r ∧ (c.Key = d.Key ∨ c.Key = k) := fun l k v => by
  unfold insC
  split
  · exact ⟨_, _, rfl, Or.inl rfl⟩
  · split
    · exact ⟨_, _, rfl, Or.inr rfl⟩
    · exact ⟨_, _, rfl, Or.inr rfl⟩
theorem adj_cons2 {α : Type} {p : α → α → Bool} {x y : α} {l : List α} : adj p (x :: y :: l) = (p x y && adj p (y :: l)) := rfl
theorem insC_adj (k : Str) (v : TVer) : ∀ {l : List TCell}, adj cLess l = true → adj cLess (insC l k v) = true
  | [], _ => rfl
  | [c], _ => by
    unfold insC
    by_cases h1 : Op.bytesLess c.Key k = true
    · rw [if_pos h1]; unfold insC; simpa [adj, cLess] using h1
    · rw [if_neg h1]
      by_cases h2 : c.Key = k
      · rw [if_pos h2]; rfl
      · rw [if_neg h2]
        have := bytesLess_tri k c.Key
        simp [adj, cLess]
        simp_all
  | c :: d :: l, h => by
    rw [adj_cons2, Bool.and_eq_true] at h
    have ih := insC_adj k v (l := d :: l) h.2
    unfold insC
    by_cases h1 : Op.bytesLess c.Key k = true
    · rw [if_pos h1]
      obtain ⟨e, r, he, hk⟩ := insC_head d l k v
      rw [he] at ih ⊢
      rw [adj_cons2, ih, Bool.and_true]
      have h3 := h.1
      unfold cLess at *
      rcases hk with hk | hk
      · rw [hk]; exact h3
      · rw [hk]; exact h1
    · rw [if_neg h1]
      by_cases h2 : c.Key = k
      · rw [if_pos h2, adj_cons2, h.2, Bool.and_true]
        have h3 := h.1
        unfold cLess at *
        rw [← h2]; exact h3
      · rw [if_neg h2, adj_cons2, adj_cons2, h.1, h.2, Bool.and_true, Bool.and_true]
        have := bytesLess_tri k c.Key
        unfold cLess
        simp_all
theorem insC_vers (k : Str) (v : TVer) : ∀ {l : List TCell}, (∀ c ∈ l, 1 ≤ c.Vers.length) → ∀ c ∈ insC l k v, 1 ≤ c.Vers.length
  | [], _, c, hc => by unfold insC at hc; simp at hc; subst hc; simp
  | d :: l, h, c, hc => by
    have hd := h d List.mem_cons_self
    have hl := fun c hc => h c (List.mem_cons_of_mem _ hc)
    unfold insC at hc
    split at hc
    · rcases List.mem_cons.1 hc with e | e
      · subst e; exact hd
      · exact insC_vers k v hl c e
    · split at hc
      · rcases List.mem_cons.1 hc with e | e
        · subst e; simp
        · exact hl c e
      · rcases List.mem_cons.1 hc with e | e
        · subst e; simp
        · exact h c e
theorem cellsOk_ins {l : List TCell} (h : CellsOk l) (k : Str) (v : TVer) : CellsOk (insC l k v) := ⟨insC_adj k v h.1, insC_vers k v h.2⟩
theorem sizeL_cons {α : Type} {f : α → Nat} {x : α} {l : List α} : sizeL f (x :: l) = 1 + f x + sizeL f l := by unfold sizeL; simp; omega
theorem sizeL_append {α : Type} {f : α → Nat} {l r : List α} : sizeL f (l ++ r) = sizeL f l + sizeL f r := by unfold sizeL; simp; omega
theorem insC_size (k : Str) (v : TVer) : ∀ {l : List TCell}, sizeL TCell.size (insC l k v) ≤ sizeL TCell.size l + (2 + k.length + v.Val.length)
  | [] => by unfold insC; simp only [sizeL_cons, TCell.size, TVer.size]; unfold sizeL; simp; omega
  | d :: l => by
    have ih := insC_size k v (l := l)
    unfold insC
    split
    · simp only [sizeL_cons]; omega
    · split
      · rename_i h; subst h
        simp only [sizeL_cons, TCell.size, sizeL_append, TVer.size]; unfold sizeL; simp; omega
      · simp only [sizeL_cons, TCell.size, TVer.size]; unfold sizeL; simp; omega
theorem putC1_size (l : List TCell) (x : TWrite) (t : Int) : sizeL TCell.size (putC1 l x t) ≤ sizeL TCell.size l + (2 + x.size) := by
  unfold putC1 TWrite.size
  have := insC_size x.Key ⟨t, x.Val, x.Gone⟩ (l := l)
  simp only at this; omega
theorem lastTime_none {l : List TCell} {k : Str} (h : ∀ c ∈ l, c.Key ≠ k) : lastTime l k = 0 := by
  have : findC l k = none := by
    unfold findC; rw [List.find?_eq_none]; intro c hc; simpa using h c hc
  unfold lastTime; rw [this]
/-- Where a scan from the end stops. -/
theorem scan_has {l : List TCell} {k : Str} {q : Nat} {c : TCell} (ha : adj cLess l = true) (hc : l[q]? = some c) (hk : c.Key = k) (v : TVer) : insC l k v = l.set q ⟨k, c.Vers ++ [v]⟩ := by
  have hq := (List.getElem?_eq_some_iff.1 hc).1
  refine (insC_at (k := k) (v := v) (l := l) (p := q) (by omega) (fun i x hi hx => ?_) (fun x hx => ?_)).1 c hc hk
  · have := adj_get cLess_trans ha hi hx hc
    unfold cLess at this; rw [hk] at this; exact this
  · rw [hc] at hx; injection hx with hx; subst hx; rw [hk]; exact bytesLess_irrefl _
theorem scan_new {l : List TCell} {k : Str} {q : Nat} (ha : adj cLess l = true) (hq : q ≤ l.length) (h1 : ∀ j x, q ≤ j → l[j]? = some x → Op.bytesLess k x.Key = true) (h2 : ∀ x, 0 < q → l[q - 1]? = some x → Op.bytesLess x.Key k = true) (v : TVer) : (insC l k v = l.take q ++ ⟨k, [v]⟩ :: l.drop q) ∧ lastTime l k = 0 := by
  have hlo : ∀ i x, i < q → l[i]? = some x → Op.bytesLess x.Key k = true := fun i x hi hx => by
    obtain ⟨y, hy⟩ := Go.AV.get_some (show q - 1 < l.length by omega)
    have h3 := h2 y (by omega) hy
    rcases Nat.lt_or_ge i (q - 1) with hlt | hge
    · have := adj_get cLess_trans ha hlt hx hy
      exact bytesLess_trans this h3
    · have : i = q - 1 := by omega
      subst this; rw [hx] at hy; injection hy with hy; subst hy; exact h3
  have hhi : ∀ x, l[q]? = some x → Op.bytesLess x.Key k = false := fun x hx => by
    have := h1 q x (Nat.le_refl _) hx
    have h3 := bytesLess_tri x.Key k
    rw [this] at h3; simpa using h3
  refine ⟨(insC_at (k := k) (v := v) hq hlo hhi).2 fun x hx hk => ?_, lastTime_none fun c hc hk => ?_⟩
  · have := h1 q x (Nat.le_refl _) hx
    rw [hk, bytesLess_irrefl] at this; cases this
  · obtain ⟨i, hi⟩ := List.getElem?_of_mem hc
    rcases Nat.lt_or_ge i q with hlt | hge
    · have := hlo i c hlt hi
      rw [hk, bytesLess_irrefl] at this; cases this
    · have := h1 i c hge hi
      rw [hk, bytesLess_irrefl] at this; cases this
theorem pos_has {l : List TCell} {k : Str} (ha : adj cLess l = true) (h : cHas l k = true) (v : TVer) : ∃ c, l[cPos l k]? = some c ∧ c.Key = k ∧ insC l k v = l.set (cPos l k) ⟨k, c.Vers ++ [v]⟩ := by
  obtain ⟨c, hc, hk⟩ := cHas_iff.1 h
  exact ⟨c, hc, hk, scan_has ha hc hk v⟩
theorem pos_new {l : List TCell} {k : Str} (ha : adj cLess l = true) (h : cHas l k = false) (v : TVer) : insC l k v = l.take (cPos l k) ++ ⟨k, [v]⟩ :: l.drop (cPos l k) := by
  obtain ⟨h1, h2⟩ := cPos_spec ha k
  refine (insC_at (k := k) (v := v) (cPos_le l k) h1 h2).2 fun x hx hk => ?_
  rw [cHas_iff.2 ⟨x, hx, hk⟩] at h; cases h
/-! ### Lookups, as the reference scans -/
def zV : TVer := ⟨0, [], false⟩
def verAt (l : List TVer) (t : Int) : Option TVer := l.reverse.find? fun v => decide (v.Time ≤ t)
theorem verAt_step {l : List TVer} {i : Nat} {x : TVer} {t : Int} (hx : l[i]? = some x) : verAt (l.take (i + 1)) t = if x.Time ≤ t then some x else verAt (l.take i) t := by
  unfold verAt
  rw [List.take_add_one, hx, Option.toList_some, List.reverse_append]
  show List.find? _ (x :: (l.take i).reverse) = _
  rw [List.find?_cons]
  by_cases h : x.Time ≤ t
  · rw [if_pos h, decide_eq_true h]
  · rw [if_neg h, decide_eq_false h]
theorem cellVal_verAt (c : TCell) (t : Int) : cellVal c t = (((verAt c.Vers t).getD zV).Val, (verAt c.Vers t).isSome && !((verAt c.Vers t).getD zV).Gone) := by
  unfold cellVal verAt
  cases c.Vers.reverse.find? (fun v => decide (v.Time ≤ t)) <;> rfl
theorem cellsAt_take {l : List TCell} {i : Nat} {x : TCell} {t : Int} (hx : l[i]? = some x) : cellsAt (l.take (i + 1)) t = cellsAt (l.take i) t ++ (if (cellVal x t).2 = true then [⟨x.Key, (cellVal x t).1, false⟩] else []) := by
  unfold cellsAt
  rw [List.take_add_one, hx, Option.toList_some, List.filterMap_append]
  congr 1
  simp only [List.filterMap_cons, List.filterMap_nil]
  split <;> simp_all
theorem cellsAt_len (l : List TCell) (t : Int) : (cellsAt l t).length ≤ l.length := by unfold cellsAt; exact List.length_filterMap_le _ _
theorem cellAt_none {l : List TCell} {k : Str} {t : Int} (h : findC l k = none) : cellAt l k t = ([], false) := by unfold cellAt; rw [h]
theorem cellAt_some {l : List TCell} {k : Str} {t : Int} {c : TCell} (h : findC l k = some c) : cellAt l k t = cellVal c t := by unfold cellAt; rw [h]
def cellAtS (l : List TCell) (k : Str) (t : Int) : Str × Bool × Bool := if (!l3Good l || !l3Key k || !isTrue t) = true then ([], false, false) else ((cellAt l k t).1, (cellAt l k t).2, true)
def cellsAtS (l : List TCell) (t : Int) : List TWrite × Bool := if (!l3Good l || !isTrue t) = true then ([], false) else (cellsAt l t, true)
def lastTimeS (l : List TCell) (k : Str) : Int × Bool := if (!l3Good l || !l3Key k) = true then (0, false) else (lastTime l k, true)
theorem cellAtR_eq (l : List TCell) (k : Str) (t : Int) : cellAtR l k t = cellAtS l k t := by unfold cellAtR cellAtS; rw [goodCells_eq, goodKey_eq]
theorem cellsAtR_eq (l : List TCell) (t : Int) : cellsAtR l t = cellsAtS l t := by unfold cellsAtR cellsAtS; rw [goodCells_eq]
theorem lastTimeR_eq (l : List TCell) (k : Str) : lastTimeR l k = lastTimeS l k := by unfold lastTimeR lastTimeS; rw [goodCells_eq, goodKey_eq]
end Go.M
