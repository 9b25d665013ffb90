/- Plain functions: a step of a migration. -/
import Derived.Test.YtdbmaekdejhobaaMove5M
set_option linter.unusedVariables false
set_option linter.unusedSimpArgs false
namespace Go.M
def sleM (a b : Str) : Bool := Op.bytesLess a b || a == b
def putR1 (m : TMove) (w : TWrite) : List TWrite × Bool := if m.Phase = 1 then putRows m.From [w] else (m.From, true)
def putR2 (m : TMove) (w : TWrite) : List TWrite × Bool := if (m.Phase == 2 || m.Over || sleM w.Key m.Last) = true then putRows m.To [w] else (m.To, true)
def putM (m : TMove) (w : TWrite) : TMove × Bool := if ((putR1 m w).2 && (putR2 m w).2) = true then (⟨m.Low, m.High, m.Phase, (putR1 m w).1, (putR2 m w).1, m.Last, m.Over⟩, true) else (m, false)
def restM (m : TMove) : List TWrite := m.From.filter fun w => !sleM w.Key m.Last
def minI (a b : Int) : Int := if b < a then b else a
def pieceOf (m : TMove) (many : Int) : List TWrite := (restM m).take (minI many (restM m).length).toNat
def lastKey (l : List TWrite) (d : Str) : Str := match l.getLast? with
  | some w => w.Key
  | none => d
theorem lastKey_some {l : List TWrite} {d : Str} {y : TWrite} (h : l[l.length - 1]? = some y) : lastKey l d = y.Key := by
  unfold lastKey; rw [List.getLast?_eq_getElem?, h]
theorem lastKey_take {l : List TWrite} {d : Str} {y : TWrite} {i : Nat} (h : l[i]? = some y) : lastKey (l.take (i + 1)) d = y.Key := by
  unfold lastKey; rw [List.take_add_one, h]; simp
theorem lastKey_none {l : List TWrite} {d : Str} (h : l.length = 0) : lastKey l d = d := by
  rw [List.eq_nil_of_length_eq_zero h]; rfl
def pieceM (m : TMove) (many : Int) : TMove × Bool :=
  if (putRows m.To (pieceOf m many)).2 = false then (m, false)
  else (⟨m.Low, m.High, m.Phase, m.From, (putRows m.To (pieceOf m many)).1, lastKey (pieceOf m many) m.Last, m.Over || (((pieceOf m many).length : Int) == ((restM m).length : Int))⟩, true)
def stepM (m : TMove) (a : TMoveAct) : TMove × Bool :=
  if a.Kind = 1 then putM m a.Write
  else if m.Phase ≠ 1 then (m, false)
  else if a.Kind = 2 then pieceM m a.Many
  else if ((a.Kind == 3) && m.Over) = true then (⟨m.Low, m.High, 2, [], m.To, [], false⟩, true)
  else if a.Kind = 4 then (⟨m.Low, m.High, m.Phase, m.From, [], [], false⟩, true)
  else (m, false)
def stepMove (m : TMove) (a : TMoveAct) : TMove × Bool × Bool := if (goodMove m && isMoveAct m a) = true then ((stepM m a).1, (stepM m a).2, true) else (noMove, false, false)
/-! ### The reference -/
def putBoth (m : TMove) (w : TWrite) : Bool := m.Phase == 2 || m.Over || sleM w.Key m.Last
def putBad (m : TMove) (w : TWrite) : Bool := ((m.Phase == 1) && !(putRowsS m.From [w]).2) || (putBoth m w && !(putRowsS m.To [w]).2)
def putMS (m : TMove) (w : TWrite) : TMove × Bool :=
  if putBad m w = true then (m, false)
  else (⟨m.Low, m.High, m.Phase, if m.Phase = 1 then (putRowsS m.From [w]).1 else m.From, if putBoth m w = true then (putRowsS m.To [w]).1 else m.To, m.Last, m.Over⟩, true)
def leastI (a b : Int) : Int := if a < b then a else b
def gtLast (m : TMove) (w : TWrite) : Bool := !(Op.bytesLess w.Key m.Last || w.Key == m.Last)
def leftM (m : TMove) : List TWrite := m.From.filter (gtLast m)
def pieceS (m : TMove) (many : Int) : List TWrite := (leftM m).take (leastI many (leftM m).length).toNat
def pieceMS (m : TMove) (many : Int) : TMove :=
  ⟨m.Low, m.High, m.Phase, m.From, putLS m.To (pieceS m many), lastKey (pieceS m many) m.Last, m.Over || (leastI many (leftM m).length == ((leftM m).length : Int))⟩
def doS (m : TMove) (a : TMoveAct) : TMove × Bool :=
  if a.Kind = 1 then putMS m a.Write
  else if ((m.Phase != 1) || ((a.Kind == 3) && !m.Over)) = true then (m, false)
  else if a.Kind = 2 then (pieceMS m a.Many, goodMoveS (pieceMS m a.Many))
  else if a.Kind = 3 then (⟨m.Low, m.High, 2, [], m.To, [], false⟩, true)
  else (⟨m.Low, m.High, 1, m.From, [], [], false⟩, true)
def stepMS (m : TMove) (a : TMoveAct) : TMove × Bool := if (doS m a).2 = true then ((doS m a).1, true) else (m, false)
def stepMoveS (m : TMove) (a : TMoveAct) : TMove × Bool × Bool := if (goodMoveS m && l22Good m a) = true then ((stepMS m a).1, (stepMS m a).2, true) else (noMove, false, false)
end Go.M
