/- Plain law: a migration in pieces of one row. -/
import Derived.Test.YtdbmaekdejhobaaMove9M
set_option linter.unusedVariables false
set_option linter.unusedSimpArgs false
namespace Go.M
/-- A new migration after i pieces of one row. -/
def stH (low high : Str) (l : List TWrite) (i : Nat) : TMove := ⟨low, high, 1, l, l.take i, lastKey (l.take i) [], decide (l.length ≤ i ∧ 1 ≤ i)⟩
theorem stH_zero (low high : Str) (l : List TWrite) : stH low high l 0 = mkMove low high l := by
  unfold stH mkMove
  simp [lastKey]
theorem drop_filter {l : List TWrite} {n : Nat} {y : TWrite} (ha : adj wLess l = true) (hy : l[n]? = some y) : l.filter (fun x => !sleM x.Key y.Key) = l.drop (n + 1) := by
  have hd : Down fun k => sleM k y.Key := by have := sleM_down y.Key false; simpa using this
  have h1 := filter_split hd ha
  rw [take_filter ha hy] at h1
  have h2 : l.take (n + 1) ++ l.drop (n + 1) = l := List.take_append_drop _ _
  exact List.append_cancel_left (h1.trans h2.symm)
theorem left_drop {l : List TWrite} (h : l5Rows l = true) (i : Nat) : l.filter (fun w => !sleM w.Key (lastKey (l.take i) [])) = l.drop i := by
  have ha := l5_adj h
  rcases Nat.eq_zero_or_pos i with rfl | hi
  · rw [List.take_zero, List.drop_zero, List.filter_eq_self]
    intro w hw
    have hk := (l5_all h w hw).2
    unfold wGood l3Write at hk
    simp only [Bool.and_eq_true] at hk
    have hk2 := goodKey_pos (by rw [goodKey_eq]; exact hk.1.1 : goodKey w.Key = true)
    have : lastKey [] [] = ([] : Str) := rfl
    rw [this]
    unfold sleM
    cases hw2 : w.Key with
    | nil => exact absurd hw2 hk2
    | cons c k => simp [Op.bytesLess]
  · rcases Nat.lt_or_ge l.length i with hl | hl
    · rw [List.take_of_length_le (by omega), List.drop_eq_nil_of_le (by omega)]
      cases hll : l.length with
      | zero => rw [List.eq_nil_of_length_eq_zero hll]; rfl
      | succ n =>
        obtain ⟨y, hy⟩ := Go.AV.get_some (show n < l.length by omega)
        rw [lastKey_some (d := []) (show l[l.length - 1]? = some y by rw [hll]; exact hy), drop_filter ha hy, List.drop_eq_nil_of_le (by omega)]
    · obtain ⟨n, rfl⟩ : ∃ n, i = n + 1 := ⟨i - 1, by omega⟩
      obtain ⟨y, hy⟩ := Go.AV.get_some (show n < l.length by omega)
      rw [lastKey_take hy, drop_filter ha hy]
def pieceAct : TMoveAct := ⟨2, ⟨[], [], false⟩, 1⟩
def handAct : TMoveAct := ⟨3, ⟨[], [], false⟩, 0⟩
theorem pieceAct_ok (m : TMove) : isMoveAct m pieceAct = true := rfl
theorem handAct_ok (m : TMove) : isMoveAct m handAct = true := rfl
theorem take_back {l : List TWrite} (i : Nat) : l.take i ++ (l.drop i).take 1 = l.take (i + 1) := by
  conv => rhs; rw [List.take_add_one]
  congr 1
  cases h : l[i]? with
  | none => rw [List.drop_eq_nil_of_le (by simpa using h)]; rfl
  | some y => rw [Go.AV.drop_some h]; rfl
theorem stH_piece {low high : Str} {l : List TWrite} (h : l5Rows l = true) (i : Nat) : pieceMS (stH low high l i) 1 = stH low high l (i + 1) := by
  have ha := l5_adj h
  have hL : leftM (stH low high l i) = l.drop i := left_drop h i
  have hP : pieceS (stH low high l i) 1 = (l.drop i).take 1 := by
    unfold pieceS
    rw [hL]
    unfold leastI
    split
    · rfl
    · rename_i hh
      have : (l.drop i).length ≤ 1 := by omega
      rw [Int.toNat_natCast, List.take_length, List.take_of_length_le this]
  have hTo : putLS (l.take i) ((l.drop i).take 1) = l.take (i + 1) := by
    rw [putLS_ins (adj_take i ha), insL_back (l := l.take i) (ws := (l.drop i).take 1) ?_ ?_, take_back]
    · cases hd : l.drop i with
      | nil => rfl
      | cons y t => rfl
    · intro w hw y hy
      obtain ⟨j, hj⟩ := List.getElem?_of_mem hw
      obtain ⟨k, hk⟩ := List.getElem?_of_mem hy
      have hj1 : j < 1 := by have := (List.getElem?_eq_some_iff.1 hj).1; rw [List.length_take] at this; omega
      have hk1 : k < i := by have := (List.getElem?_eq_some_iff.1 hk).1; rw [List.length_take] at this; omega
      rw [List.getElem?_take_of_lt hj1, List.getElem?_drop] at hj
      rw [List.getElem?_take_of_lt hk1] at hk
      exact adj_get wLess_trans ha (show k < i + j by omega) hk hj
  have hLast : lastKey ((l.drop i).take 1) (lastKey (l.take i) []) = lastKey (l.take (i + 1)) [] := by
    cases hl : l[i]? with
    | none =>
      have hge : l.length ≤ i := by simpa using hl
      rw [List.drop_eq_nil_of_le hge, List.take_of_length_le hge, List.take_of_length_le (show l.length ≤ i + 1 by omega)]; rfl
    | some y => rw [lastKey_take hl, Go.AV.drop_some hl]; rfl
  have hOver : (decide (l.length ≤ i ∧ 1 ≤ i) || (leastI 1 (l.drop i).length == ((l.drop i).length : Int))) = decide (l.length ≤ i + 1 ∧ 1 ≤ i + 1) := by
    rw [Bool.eq_iff_iff]
    simp only [Bool.or_eq_true, decide_eq_true_eq, beq_iff_eq, List.length_drop]
    unfold leastI
    split <;> omega
  unfold pieceMS
  rw [hP, hL]
  show (⟨low, high, 1, l, putLS (l.take i) ((l.drop i).take 1), lastKey ((l.drop i).take 1) (lastKey (l.take i) []), decide (l.length ≤ i ∧ 1 ≤ i) || (leastI 1 (l.drop i).length == ((l.drop i).length : Int))⟩ : TMove) = _
  rw [hTo, hLast, hOver]; rfl
theorem hand_step {low high : Str} {l : List TWrite} (hg : goodMove (mkMove low high l) = true) (i : Nat) : goodMove (stH low high l i) = true ∧ stepMove (stH low high l i) pieceAct = (stH low high l (i + 1), true, true) := by
  have hl5 : l5Rows l = true := (goodMove_l5 hg).1
  have key : ∀ i, goodMove (stH low high l i) = true → stepMS (stH low high l i) pieceAct = (stH low high l (i + 1), true) := fun i h => by
    have hd : doS (stH low high l i) pieceAct = (pieceMS (stH low high l i) 1, goodMoveS (pieceMS (stH low high l i) 1)) := rfl
    have hgood : goodMoveS (pieceMS (stH low high l i) 1) = true := by
      rw [pieceMS_good h rfl, ← putLS_ins (l5_adj (goodMove_l5 h).2)]
      have := congrArg TMove.To (stH_piece (low := low) (high := high) hl5 i)
      unfold pieceMS at this
      simp only at this
      rw [this]
      have h2 := l5_len hl5
      have h3 : (stH low high l (i + 1)).To.length ≤ l.length := List.length_take_le' _ _
      exact decide_eq_true (by omega)
    rw [stepMS_of hd, hgood, if_pos rfl, stH_piece hl5]
  have hgi : ∀ i, goodMove (stH low high l i) = true := fun i => by
    induction i with
    | zero => rw [stH_zero]; exact hg
    | succ i ih =>
      have := stepMS_good ih (pieceAct_ok _)
      rw [key i ih] at this
      exact this
  refine ⟨hgi i, ?_⟩
  unfold stepMove
  rw [hgi i, pieceAct_ok, stepM_eq (hgi i) (pieceAct_ok _), key i (hgi i)]
  rfl
theorem hand_end {low high : Str} {l : List TWrite} (hg : goodMove (mkMove low high l) = true) : stepMove (stH low high l (l.length + 1)) handAct = (⟨low, high, 2, [], l, [], false⟩, true, true) := by
  have h := (hand_step hg (l.length + 1)).1
  unfold stepMove
  rw [h, handAct_ok]
  have ho : (stH low high l (l.length + 1)).Over = true := by unfold stH; simp
  have ht : (stH low high l (l.length + 1)).To = l := List.take_of_length_le (by omega)
  have hs : stepM (stH low high l (l.length + 1)) handAct = (⟨low, high, 2, [], (stH low high l (l.length + 1)).To, [], false⟩, true) := by
    unfold stepM
    rw [if_neg (by decide), if_neg (fun h => h rfl), if_neg (by decide), ho, if_pos (by decide)]; rfl
  rw [hs, ht]; rfl
theorem newMove_ok {a b : Str} {l : List TWrite} (h : (newMove a b l).2 = true) : (newMove a b l).1 = mkMove a b l ∧ goodMove (mkMove a b l) = true := by
  unfold newMove at h ⊢
  split at h
  · cases h
  · rename_i hh
    rw [if_neg hh]
    exact ⟨rfl, by simpa using hh⟩
end Go.M
