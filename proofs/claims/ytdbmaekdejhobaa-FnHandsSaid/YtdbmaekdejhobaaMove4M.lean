/- Plain functions: migrations begun and copied. -/
import Derived.Test.YtdbmaekdejhobaaMove3M
set_option linter.unusedVariables false
set_option linter.unusedSimpArgs false
namespace Go.M
def cpDel (m : TMove) (w : TWrite) : Bool := !m.Over && !(Op.bytesLess w.Key m.Last || w.Key == m.Last)
def cpWant (m : TMove) (w : TWrite) : Bool := m.Over || (Op.bytesLess w.Key m.Last || w.Key == m.Last)
def isCopied (m : TMove) : Bool × Bool := if (!goodMove m) = true then (false, false) else ((m.Phase == 2) || decide (m.From.filter (fun w => !cpDel m w) = m.To), true)
def l22Copied (m : TMove) : Bool := if m.Phase = 2 then true else decide (m.From.filter (cpWant m) = m.To)
def isCopiedS (m : TMove) : Bool × Bool := if (!goodMoveS m) = true then (false, false) else (l22Copied m, true)
theorem cpDel_eq (m : TMove) : (fun w => !cpDel m w) = cpWant m := by
  funext w; unfold cpDel cpWant
  cases m.Over <;> cases Op.bytesLess w.Key m.Last <;> cases (w.Key == m.Last) <;> rfl
theorem isCopied_eq (m : TMove) : isCopied m = isCopiedS m := by
  unfold isCopied isCopiedS l22Copied
  rw [goodMove_eq, cpDel_eq]
  by_cases h : m.Phase = 2
  · simp [h]
  · have e : (m.Phase == 2) = false := beq_false_of_ne h
    simp [h, e]
def mkMove (low high : Str) (rows : List TWrite) : TMove := ⟨low, high, 1, rows, [], [], false⟩
def noMove : TMove := ⟨[], [], 0, [], [], [], false⟩
def newMove (low high : Str) (rows : List TWrite) : TMove × Bool := if (!goodMove (mkMove low high rows)) = true then (noMove, false) else (mkMove low high rows, true)
def newMoveS (low high : Str) (rows : List TWrite) : TMove × Bool := if (!l22Ends low high || !l22Rows low high rows) = true then (noMove, false) else (mkMove low high rows, true)
theorem newMove_eq (low high : Str) (rows : List TWrite) : newMove low high rows = newMoveS low high rows := by
  unfold newMove newMoveS
  have h : goodMove (mkMove low high rows) = (l22Ends low high && l22Rows low high rows) := by
    rw [goodMove_eq]
    unfold goodMoveS mkMove
    have h1 : l22Rows low high [] = true := rfl
    have h2 : within 1 1 2 = true := rfl
    simp only [h1, h2]
    cases l22Ends low high <;> cases l22Rows low high rows <;> rfl
  rw [h]
  cases l22Ends low high <;> cases l22Rows low high rows <;> rfl
theorem newMove_len (low high : Str) (rows : List TWrite) : (newMove low high rows).1.From.length ≤ rows.length ∧ (newMove low high rows).1.To.length = 0 := by
  unfold newMove; split
  · exact ⟨Nat.zero_le _, rfl⟩
  · exact ⟨Nat.le_refl _, rfl⟩
end Go.M
