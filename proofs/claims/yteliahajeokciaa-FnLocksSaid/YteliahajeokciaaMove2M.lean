/- Plain functions: rows and migrations. -/
import Derived.Test.YteliahajeokciaaTableM
set_option linter.unusedVariables false
set_option linter.unusedSimpArgs false
namespace Go.M
theorem take_map_succ {α β : Type} {f : α → β} {l : List α} {i : Nat} {x : α} (h : l[i]? = some x) : (l.take i).map f ++ [f x] = (l.take (i + 1)).map f := by
  rw [List.take_add_one, h]; simp
def areRising (l : List Str) : Bool := l.all goodKey && adj Op.bytesLess l
def wKeys (l : List TWrite) : List Str := l.map TWrite.Key
def goodWrites (l : List TWrite) : Bool := decide ((l.length : Int) ≤ 24) && areRising (wKeys l) && !(l.any fun w => !isStored w.Val w.Gone)
def isRows (l : List TWrite) : Bool := goodWrites l && !(l.any TWrite.Gone)
def areInRange (m : TMove) (l : List TWrite) : Bool := isRows l && !(l.any fun w => !inRange m.Low m.High w.Key)
def goodMove (m : TMove) : Bool :=
  if (!areEnds m.Low m.High || !areInRange m m.From || !areInRange m m.To) = true then false
  else if m.Phase = 2 then ((m.From.length : Int) == 0) && m.Last == [] && !m.Over
  else (m.Phase == 1) && (m.Last == [] || goodKey m.Last)
def wLess (a b : TWrite) : Bool := Op.bytesLess a.Key b.Key
def wGood (w : TWrite) : Bool := l3Write w.Key w.Val w.Gone
def l3Writes (l : List TWrite) : Bool := (l.all wGood && adj wLess l) && decide ((l.length : Int) ≤ 24)
def l5Rows (l : List TWrite) : Bool := l.all (fun w => !w.Gone) && l3Writes l
def l22Rows (low high : Str) (l : List TWrite) : Bool := l.all (fun w => inRange low high w.Key) && l5Rows l
def goodMoveS (m : TMove) : Bool :=
  if (!l22Ends m.Low m.High || !within m.Phase 1 2 || !l22Rows m.Low m.High m.From || !l22Rows m.Low m.High m.To || m.Last != [] && !l3Key m.Last) = true then false
  else m.Phase == 1 || ((m.From.length : Int) == 0) && m.Last == [] && !m.Over
theorem adj_map {α β : Type} (f : α → β) (p : β → β → Bool) : ∀ l : List α, adj p (l.map f) = adj (fun a b => p (f a) (f b)) l
  | [] => rfl
  | [_] => rfl
  | x :: y :: l => by
    have := adj_map f p (y :: l)
    simp only [List.map_cons, adj] at *
    rw [this]
theorem goodWrites_eq (l : List TWrite) : goodWrites l = l3Writes l := by
  unfold goodWrites l3Writes areRising wKeys
  rw [adj_map, List.all_map, List.not_any_eq_all_not]
  have h2 : l.all wGood = ((l.all (goodKey ∘ TWrite.Key)) && l.all fun w => l3Val w.Val && (!w.Gone || w.Val == [])) := by
    induction l with
    | nil => rfl
    | cons w l ih =>
      simp only [List.all_cons, ih, wGood, l3Write, Function.comp, goodKey_eq, Bool.and_assoc]
      cases l3Key w.Key <;> cases l3Val w.Val <;> cases (!w.Gone || w.Val == []) <;> simp only [Bool.true_and, Bool.and_true, Bool.false_and, Bool.and_false]
  have h1 : (l.all fun w => !!isStored w.Val w.Gone) = l.all fun w => l3Val w.Val && (!w.Gone || w.Val == []) := by
    congr 1; funext w; rw [Bool.not_not, isStored_eq]
  rw [h1, h2]
  show _ = _
  have h3 : adj (fun a b => Op.bytesLess a.Key b.Key) l = adj wLess l := rfl
  rw [h3]
  cases l.all (goodKey ∘ TWrite.Key) <;> cases adj wLess l <;> cases decide ((l.length : Int) ≤ 24) <;> cases (l.all fun w => l3Val w.Val && (!w.Gone || w.Val == [])) <;> rfl
theorem isRows_eq (l : List TWrite) : isRows l = l5Rows l := by
  unfold isRows l5Rows
  rw [goodWrites_eq, List.not_any_eq_all_not, Bool.and_comm]
theorem areInRange_eq (m : TMove) (l : List TWrite) : areInRange m l = l22Rows m.Low m.High l := by
  unfold areInRange l22Rows
  rw [isRows_eq, List.not_any_eq_all_not, Bool.and_comm]
  congr 2; funext w; rw [Bool.not_not]
theorem goodMove_eq (m : TMove) : goodMove m = goodMoveS m := by
  unfold goodMove goodMoveS within
  rw [areInRange_eq, areInRange_eq, areEnds_eq, goodKey_eq]
  cases h1 : l22Ends m.Low m.High <;> cases h2 : l22Rows m.Low m.High m.From <;> cases h3 : l22Rows m.Low m.High m.To <;> simp
  by_cases h4 : m.Phase = 2
  · simp [h4]
    cases h5 : l3Key m.Last <;> cases h6 : m.Last <;> simp
  · by_cases h5 : m.Phase = 1
    · simp [h5]
      cases h5 : l3Key m.Last <;> cases h6 : m.Last <;> simp
    · have e1 : (m.Phase == 1) = false := beq_false_of_ne h5
      by_cases h6 : m.Phase < 1
      · simp [h6, e1]; intro h; exact absurd h h4
      · have h7 : 2 < m.Phase := by omega
        simp [h7, e1]; intro h; exact absurd h h4
end Go.M
