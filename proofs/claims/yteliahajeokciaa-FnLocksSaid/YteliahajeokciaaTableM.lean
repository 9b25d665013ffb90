/- Plain functions: tables. -/
import Derived.Test.YteliahajeokciaaFeedM
set_option linter.unusedVariables false
namespace Go.M
/-- Each element and all before it. -/
def allPre {α : Type} (p : List α → α → Bool) : List α → List α → Bool
  | _, [] => true
  | pre, x :: l => p pre x && allPre p (pre ++ [x]) l
theorem allPre_step {α : Type} {p : List α → α → Bool} {l : List α} {i : Nat} {x : α} (hx : l[i]? = some x) (h : p (l.take i) x = true) : allPre p (l.take i) (l.drop i) = allPre p (l.take (i + 1)) (l.drop (i + 1)) := by
  rw [Go.AV.drop_some hx, allPre, h, Bool.true_and, List.take_add_one, hx]; rfl
theorem allPre_stop {α : Type} {p : List α → α → Bool} {l : List α} {i : Nat} {x : α} (hx : l[i]? = some x) (h : p (l.take i) x = false) : allPre p (l.take i) (l.drop i) = false := by
  rw [Go.AV.drop_some hx, allPre, h, Bool.false_and]
theorem allPre_end {α : Type} {p : List α → α → Bool} {l : List α} {i : Nat} (h : l.length ≤ i) : allPre p (l.take i) (l.drop i) = true := by
  rw [List.drop_eq_nil_of_le h]; rfl
theorem all_step {α : Type} {p : α → Bool} {l : List α} {i : Nat} {x : α} (hx : l[i]? = some x) (h : p x = true) : (l.drop i).all p = (l.drop (i + 1)).all p := by
  rw [Go.AV.drop_some hx, List.all_cons, h, Bool.true_and]
theorem all_stop {α : Type} {p : α → Bool} {l : List α} {i : Nat} {x : α} (hx : l[i]? = some x) (h : p x = false) : (l.drop i).all p = false := by
  rw [Go.AV.drop_some hx, List.all_cons, h, Bool.false_and]
theorem all_end {α : Type} {p : α → Bool} {l : List α} {i : Nat} (h : l.length ≤ i) : (l.drop i).all p = true := by
  rw [List.drop_eq_nil_of_le h]; rfl
def isLet (c : UInt8) : Bool := !(decide ((c.toNat : Int) < 97) || decide (122 < (c.toNat : Int)))
def letters (s : Str) (most : Int) : Bool := s.all isLet && within s.length 1 most
def isStage (t : Int) : Bool := within t 0 3
def goodCols (l : List Str) : Bool := allPre (fun pre s => letters s 3 && !(pre.any fun x => s == x)) [] l
def goodIdx (n : Int) (x : TIdx) : Bool := letters x.Name 1 && within x.Col 1 (n - 1) && within x.Stage 0 3
def lessName (a b : TIdx) : Bool := Op.bytesLess a.Name b.Name
def goodTable (t : TTable) : Bool := letters t.Name 1 && (within t.Cols.length 2 4 && goodCols t.Cols) && decide ((t.Idxs.length : Int) ≤ 3) && (t.Idxs.all (goodIdx t.Cols.length) && adj lessName t.Idxs)
def colAt (t : TTable) (c : Str) : Int × Bool :=
  let i := idxFrom (fun x => c == x) t.Cols 0
  if goodTable t = true ∧ 0 ≤ i then (i, true) else (0, false)
def l24Idx (t : TTable) (c : Str) : Int := idxFrom (fun x : TIdx => x.Name == c) t.Idxs 0
def idxAt (t : TTable) (c : Str) : TIdx × Bool :=
  if goodTable t = true ∧ 0 ≤ l24Idx t c then (match t.Idxs[(l24Idx t c).toNat]? with | some x => x | none => ⟨[], 0, 0⟩, true) else (⟨[], 0, 0⟩, false)
theorem idxFrom_le {α : Type} (p : α → Bool) : ∀ (l : List α) (k : Int), 0 ≤ k → 0 ≤ idxFrom p l k → k ≤ idxFrom p l k ∧ ∃ x, l[(idxFrom p l k - k).toNat]? = some x
  | [], k, hk, h => by simp [idxFrom] at h
  | x :: l, k, hk, h => by
    unfold idxFrom at h ⊢
    by_cases hp : p x = true
    · simp only [hp, if_true]; exact ⟨Int.le_refl _, x, by simp⟩
    · simp only [hp] at h ⊢
      obtain ⟨h1, y, h2⟩ := idxFrom_le p l (k + 1) (by omega) h
      refine ⟨by simp; omega, y, ?_⟩
      simp only [Bool.false_eq_true, if_false]
      rw [show (idxFrom p l (k + 1) - k).toNat = (idxFrom p l (k + 1) - (k + 1)).toNat + 1 by omega]
      simpa using h2
theorem idxFrom_get {α : Type} (p : α → Bool) (l : List α) (h : 0 ≤ idxFrom p l 0) : ∃ x, l[(idxFrom p l 0).toNat]? = some x := by
  have := (idxFrom_le p l 0 (Int.le_refl 0) h).2
  rwa [Int.sub_zero] at this
theorem idxFrom_congr {α : Type} {p q : α → Bool} (h : ∀ x, p x = q x) : ∀ (l : List α) (k : Int), idxFrom p l k = idxFrom q l k
  | [], _ => rfl
  | x :: l, k => by unfold idxFrom; rw [h, idxFrom_congr h l]
end Go.M
