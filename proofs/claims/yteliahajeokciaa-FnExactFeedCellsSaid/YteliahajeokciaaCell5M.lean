/- Plain law: a feed put into cells. -/
import Derived.Test.YteliahajeokciaaCellM
import Derived.Test.YteliahajeokciaaMarkM
import Derived.Test.YteliahajeokciaaAvN
set_option linter.unusedVariables false
set_option linter.unusedSimpArgs false
namespace Go.M
open Go.AV
def wOf (c : TFeedItem) : List TWrite := [⟨c.Key, c.Val, c.Gone⟩]
def feedAll (q : List TCell) (g : Int) : List TFeedItem → Option (List TCell)
  | [] => some q
  | c :: l => if c.Group ≠ g then feedAll q g l else if (!(putCells q (wOf c) c.Time).2) = true then none else feedAll (putCells q (wOf c) c.Time).1 g l
def feedRes (q : List TCell) (g : Int) (l : List TFeedItem) : List TCell × Bool := match feedAll q g l with
  | none => ([], false)
  | some r => (r, true)
def feedCells (q : List TCell) (l : List TFeedItem) (g : Int) : List TCell × Bool := if (!goodCells q || !goodFeed l || !isGroup g) = true then ([], false) else feedRes q g l
def feedCellsS (q : List TCell) (l : List TFeedItem) (g : Int) : List TCell × Bool := if (!l3Good q || !l23Feed l || !within g 0 3) = true then ([], false) else feedRes q g l
theorem feedCells_eq (q : List TCell) (l : List TFeedItem) (g : Int) : feedCells q l g = feedCellsS q l g := by
  unfold feedCells feedCellsS isGroup; rw [goodCells_eq, goodFeed_eq]
theorem sizeL_max {α : Type} {f : α → Nat} {c : Nat} : ∀ {l : List α}, (∀ x ∈ l, f x ≤ c) → sizeL f l ≤ l.length * (c + 1)
  | [], _ => by simp [sizeL]
  | x :: l, h => by
    rw [sizeL_cons]
    have h1 := h x List.mem_cons_self
    have h2 := sizeL_max (l := l) fun y hy => h y (List.mem_cons_of_mem _ hy)
    rw [List.length_cons, Nat.add_mul]; omega
theorem goodKey_len {s : Str} (h : goodKey s = true) : s.length ≤ 12 := by
  unfold goodKey within at h
  simp only [Bool.and_eq_true, decide_eq_true_eq] at h
  omega
theorem stored_len {s : Str} {g : Bool} (h : isStored s g = true) : s.length ≤ 24 := by
  unfold isStored goodVal at h
  simp only [Bool.and_eq_true, decide_eq_true_eq] at h
  omega
theorem good_size {l : List TCell} (h : goodCells l = true) : sizeL TCell.size l ≤ 9912 := by
  obtain ⟨h1, _, h3⟩ := goodCells_facts h
  have : ∀ c ∈ l, c.size ≤ 412 := fun c hc => by
    obtain ⟨k1, k2, k3, _, k5⟩ := h3 c hc
    have e1 := goodKey_len k1
    have e2 := sizeL_max (f := TVer.size) (c := 24) (l := c.Vers) fun v hv => by
      have := k5 v hv
      unfold verGood at this
      simp only [Bool.and_eq_true] at this
      exact stored_len this.2
    unfold TCell.size; omega
  have h4 := sizeL_max this
  omega
theorem put_good {q : List TCell} {w : List TWrite} {t : Int} (h : (putCells q w t).2 = true) : goodCells (putCells q w t).1 = true := by
  unfold putCells at *
  cases hp : putAll q w t with
  | none => rw [hp] at h; cases h
  | some o =>
    rw [hp] at h
    simp only at h ⊢
    split at h
    · cases h
    · rename_i hg
      rw [if_neg hg]; simpa using hg
theorem item_write {c : TFeedItem} (h : goodItem c = true) : goodWrites (wOf c) = true ∧ isTime c.Time = true := by
  unfold goodItem at h
  simp only [Bool.and_eq_true] at h
  refine ⟨?_, h.1.1.1⟩
  unfold goodWrites wOf areRising wKeys
  simp only [List.length_cons, List.length_nil, List.map_cons, List.map_nil, List.all_cons, List.all_nil, adj, List.any_cons, List.any_nil, h.1.2, h.2]
  rfl
theorem feed_item {l : List TFeedItem} (h : goodFeed l = true) {i : Nat} {c : TFeedItem} (hc : l[i]? = some c) : goodItem c = true := by
  unfold goodFeed at h
  simp only [Bool.and_eq_true, Bool.not_eq_true', List.any_eq_false] at h
  have := h.2 c (List.mem_of_getElem? hc)
  simpa using this
theorem putS_eq {q : List TCell} {c : TFeedItem} (hq : goodCells q = true) (hc : goodItem c = true) : putCellsS q (wOf c) c.Time = putCells q (wOf c) c.Time := by
  rw [← putCellsR_eq]
  unfold putCellsR
  obtain ⟨h1, h2⟩ := item_write hc
  rw [hq, h1, h2]; rfl
theorem feedRes_put {l : List TFeedItem} {q0 q : List TCell} {g : Int} {i : Nat} {c : TFeedItem} (h : feedRes q0 g l = feedRes q g (l.drop i)) (hc : l[i]? = some c) (hg : c.Group = g) (hp : (putCells q (wOf c) c.Time).2 = true) : feedRes q0 g l = feedRes (putCells q (wOf c) c.Time).1 g (l.drop (i + 1)) := by
  rw [h, drop_some hc]
  have e : feedAll q g (c :: l.drop (i + 1)) = feedAll (putCells q (wOf c) c.Time).1 g (l.drop (i + 1)) := by
    show (if c.Group ≠ g then _ else _) = _
    rw [if_neg (by simpa using hg), if_neg (by rw [hp]; decide)]
  unfold feedRes; rw [e]
theorem feedRes_stop {l : List TFeedItem} {q0 q : List TCell} {g : Int} {i : Nat} {c : TFeedItem} (h : feedRes q0 g l = feedRes q g (l.drop i)) (hc : l[i]? = some c) (hg : c.Group = g) (hp : (putCells q (wOf c) c.Time).2 = false) : feedRes q0 g l = ([], false) := by
  rw [h, drop_some hc]
  have e : feedAll q g (c :: l.drop (i + 1)) = none := by
    show (if c.Group ≠ g then _ else _) = _
    rw [if_neg (by simpa using hg), if_pos (by rw [hp]; rfl)]
  unfold feedRes; rw [e]
theorem feedRes_skip {l : List TFeedItem} {q0 q : List TCell} {g : Int} {i : Nat} {c : TFeedItem} (h : feedRes q0 g l = feedRes q g (l.drop i)) (hc : l[i]? = some c) (hg : c.Group ≠ g) : feedRes q0 g l = feedRes q g (l.drop (i + 1)) := by
  rw [h, drop_some hc]
  have e : feedAll q g (c :: l.drop (i + 1)) = feedAll q g (l.drop (i + 1)) := by
    show (if c.Group ≠ g then _ else _) = _
    rw [if_pos hg]
  unfold feedRes; rw [e]
theorem feedRes_end {l : List TFeedItem} {q0 q : List TCell} {g : Int} {i : Nat} (h : feedRes q0 g l = feedRes q g (l.drop i)) (hi : l.length ≤ i) : feedRes q0 g l = (q, true) := by
  rw [h, List.drop_eq_nil_of_le hi]; rfl
def TCell.markE (p : TCell) (k : Int) : TCell := ⟨markText k, marks mkVer 3 p.Vers.length (k + 1)⟩
def TCell.markEN (p : TCell) (k : Int) : Int := k + 1 + 3 * p.Vers.length
theorem TCell.markEN_le (p : TCell) (k : Int) : k ≤ p.markEN k := by unfold TCell.markEN; omega
theorem TCell.markEN_le1 (p : TCell) (k : Int) : k + 1 ≤ p.markEN k := by unfold TCell.markEN; omega
theorem cellsN_size : ∀ (l : List TCell) (k : Int), countN TCell.markEN l k ≤ k + 3 * sizeL TCell.size l
  | [], k => by simp [countN, sizeL]
  | p :: l, k => by
    unfold countN
    have h1 := cellsN_size l (p.markEN k)
    have h2 : p.markEN k ≤ k + 3 * p.size + 1 := by
      unfold TCell.markEN TCell.size
      have h3 : p.Vers.length ≤ sizeL TVer.size p.Vers := sizeL_len
      omega
    rw [sizeL_cons]
    omega
end Go.M
