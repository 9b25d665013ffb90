/- Plain law: a step of a migration is what the reference does. -/
import Derived.Test.YtdbmaekdejhobaaMove6M
set_option linter.unusedVariables false
set_option linter.unusedSimpArgs false
namespace Go.M
theorem lastKey_len (l : List TWrite) (d : Str) : (lastKey l d).length ≤ sizeL TWrite.size l + d.length := by
  unfold lastKey
  split
  · rename_i w hw
    have h := sizeL_mem (f := TWrite.size) (List.mem_of_getLast? hw)
    have h2 : w.Key.length ≤ w.size := Nat.le_add_right _ _
    omega
  · omega
theorem pieceS_size (m : TMove) (many : Int) : sizeL TWrite.size (pieceS m many) ≤ sizeL TWrite.size m.From :=
  sizeW_sub ((List.take_sublist _ _).trans List.filter_sublist)
theorem pieceMS_size (m : TMove) (many : Int) : (pieceMS m many).size ≤ 3 * m.size := by
  have h1 := pieceS_size m many
  have h2 := lastKey_len (pieceS m many) m.Last
  have h3 := putLS_size (pieceS m many) m.To
  unfold TMove.size pieceMS
  simp only
  omega
/-! ### A good migration is small -/
theorem within_iff {n a b : Int} : within n a b = true ↔ a ≤ n ∧ n ≤ b := by unfold within; simp
theorem goodKey_len {k : Str} (h : goodKey k = true) : k.length ≤ 12 := by
  unfold goodKey at h; simp only [Bool.and_eq_true, within_iff] at h; omega
theorem l3Key_len {k : Str} (h : l3Key k = true) : k.length ≤ 12 := by
  unfold l3Key at h; simp only [Bool.and_eq_true, within_iff] at h; omega
theorem wGood_size {w : TWrite} (h : wGood w = true) : w.size ≤ 36 := by
  unfold wGood l3Write at h
  simp only [Bool.and_eq_true] at h
  have h1 := l3Key_len h.1.1
  have h2 := h.1.2
  unfold l3Val at h2
  simp only [Bool.and_eq_true, decide_eq_true_eq] at h2
  unfold TWrite.size; omega
theorem sizeL_le {α : Type} {f : α → Nat} {c : Nat} : ∀ {l : List α}, (∀ x ∈ l, f x ≤ c) → sizeL f l ≤ l.length * (c + 1)
  | [], _ => by simp [sizeL]
  | x :: l, h => by
    rw [sizeW_cons]
    have h1 := h x List.mem_cons_self
    have h2 := sizeL_le (l := l) (f := f) (c := c) fun y hy => h y (List.mem_cons_of_mem _ hy)
    simp only [List.length_cons, Nat.add_mul, Nat.one_mul]; omega
theorem rows_size {l : List TWrite} (h : l5Rows l = true) : sizeL TWrite.size l ≤ 888 := by
  have h1 := sizeL_le (f := TWrite.size) (c := 36) fun w hw => wGood_size (l5_all h w hw).2
  have h2 := l5_len h
  omega
theorem goodMove_l5 {m : TMove} (h : goodMove m = true) : l5Rows m.From = true ∧ l5Rows m.To = true := by
  obtain ⟨_, h1, h2⟩ := goodMove_rows h
  unfold areInRange at h1 h2
  simp only [Bool.and_eq_true] at h1 h2
  rw [isRows_eq] at h1 h2
  exact ⟨h1.1, h2.1⟩
theorem goodMove_parts {m : TMove} (h : goodMove m = true) : m.Low.length ≤ 12 ∧ m.High.length ≤ 12 ∧ m.Last.length ≤ 12 := by
  have h0 := goodMove_rows h
  have h1 := h0.1
  unfold areEnds at h1
  simp only [Bool.and_eq_true, Bool.or_eq_true, beq_iff_eq] at h1
  refine ⟨?_, ?_, ?_⟩
  · rcases h1.1 with h2 | h2
    · rw [h2]; decide
    · exact goodKey_len h2
  · rcases h1.2 with h2 | h2
    · rw [h2]; decide
    · exact goodKey_len h2.1
  · rw [goodMove_eq] at h
    unfold goodMoveS at h
    split at h
    · cases h
    · rename_i hh
      simp only [Bool.or_eq_true, not_or, Bool.and_eq_true, not_and, bne_iff_ne, ne_eq] at hh
      by_cases hl : m.Last = []
      · rw [hl]; decide
      · have := hh.2 hl
        exact l3Key_len (by simpa using this)
theorem goodMove_size {m : TMove} (h : goodMove m = true) : m.size ≤ 2048 := by
  obtain ⟨h1, h2⟩ := goodMove_l5 h
  obtain ⟨h3, h4, h5⟩ := goodMove_parts h
  have h6 := rows_size h1
  have h7 := rows_size h2
  unfold TMove.size; omega
theorem isMoveAct_w {m : TMove} {a : TMoveAct} (h : isMoveAct m a = true) : a.Write.size ≤ 36 := by
  rw [isMoveAct_eq] at h
  unfold l22Good at h
  split at h
  · simp only [Bool.and_eq_true] at h
    exact wGood_size h.1.1
  · split at h
    · simp only [Bool.and_eq_true, wEq_dec, decide_eq_true_eq] at h
      rw [h.1]; decide
    · split at h
      · simp only [Bool.and_eq_true, wEq_dec, decide_eq_true_eq] at h
        rw [h.1]; decide
      · cases h
theorem act_kind {m : TMove} {a : TMoveAct} (h : isMoveAct m a = true) : a.Kind = 1 ∨ a.Kind = 2 ∨ a.Kind = 3 ∨ a.Kind = 4 := by
  unfold isMoveAct at h
  split at h
  · omega
  · split at h
    · omega
    · split at h
      · omega
      · cases h
theorem act_put {m : TMove} {a : TMoveAct} (h : isMoveAct m a = true) (k : a.Kind = 1) : l3Writes [a.Write] = true ∧ inRange m.Low m.High a.Write.Key = true ∧ a.Many = 0 := by
  unfold isMoveAct at h
  rw [if_pos k] at h
  simp only [Bool.and_eq_true, beq_iff_eq] at h
  rw [goodWrites_eq] at h
  exact ⟨h.1.2, h.2, h.1.1⟩
theorem act_many0 {m : TMove} {a : TMoveAct} (h : isMoveAct m a = true) (k : a.Kind = 2) : 0 ≤ a.Many := by
  unfold isMoveAct at h
  rw [if_neg (by omega), if_pos k] at h
  simp only [Bool.and_eq_true, within_iff] at h
  omega
theorem putM_eq {m : TMove} {w : TWrite} (hg : goodMove m = true) (hw : l3Writes [w] = true) : putM m w = if (putMS m w).2 = true then ((putMS m w).1, true) else (m, false) := by
  obtain ⟨h1, h2⟩ := goodMove_l5 hg
  have e1 := putRows_eq h1 hw
  have e2 := putRows_eq h2 hw
  have r1 : putR1 m w = if m.Phase = 1 then putRowsS m.From [w] else (m.From, true) := by unfold putR1; rw [e1]
  have r2 : putR2 m w = if putBoth m w = true then putRowsS m.To [w] else (m.To, true) := by unfold putR2 putBoth; rw [e2]
  unfold putM putMS putBad
  rw [r1, r2]
  generalize putRowsS m.From [w] = A
  generalize putRowsS m.To [w] = B
  obtain ⟨A1, A2⟩ := A
  obtain ⟨B1, B2⟩ := B
  generalize putBoth m w = t
  by_cases hp : m.Phase = 1
  · have hb : (m.Phase == 1) = true := by simp [hp]
    simp only [hp, if_true]
    cases A2 <;> cases B2 <;> cases t <;> simp
  · have hb : (m.Phase == 1) = false := beq_false_of_ne hp
    simp only [hp, if_false, hb]
    cases B2 <;> cases t <;> simp
theorem minI_eq (a b : Int) : minI a b = leastI a b := by unfold minI leastI; split <;> split <;> omega
theorem pieceOf_eq (m : TMove) (many : Int) : pieceOf m many = pieceS m many := by
  unfold pieceOf pieceS; rw [minI_eq]; rfl
theorem pieceS_len (m : TMove) {many : Int} (h : 0 ≤ many) : ((pieceS m many).length : Int) = leastI many (leftM m).length := by
  unfold pieceS; rw [List.length_take]
  unfold leastI; split <;> omega
theorem lastKey_or (l : List TWrite) (d : Str) : lastKey l d = d ∨ ∃ w ∈ l, lastKey l d = w.Key := by
  unfold lastKey
  split
  · rename_i w hw; exact .inr ⟨w, List.mem_of_getLast? hw, rfl⟩
  · exact .inl rfl
theorem piece_mem {m : TMove} {many : Int} {w : TWrite} (h : w ∈ pieceS m many) : w ∈ m.From := (List.mem_filter.1 (List.mem_of_mem_take h)).1
theorem inRow {m : TMove} {l : List TWrite} (h : areInRange m l = true) : l5Rows l = true ∧ ∀ w ∈ l, inRange m.Low m.High w.Key = true := by
  rw [areInRange_eq] at h
  unfold l22Rows at h
  simp only [Bool.and_eq_true, List.all_eq_true] at h
  exact ⟨h.2, h.1⟩
theorem pieceMS_good {m : TMove} (hg : goodMove m = true) (hp : m.Phase = 1) (many : Int) : goodMoveS (pieceMS m many) = decide (((insL m.To (pieceS m many)).length : Int) ≤ 24) := by
  obtain ⟨h0, h1, h2⟩ := goodMove_rows hg
  obtain ⟨h3, h4⟩ := inRow h1
  obtain ⟨h5, h6⟩ := inRow h2
  have hl := (goodMove_parts hg).2.2
  have hadj := insL_adj (ws := pieceS m many) (l5_adj h5)
  have hall : ∀ w ∈ insL m.To (pieceS m many), w.Gone = false ∧ wGood w = true := fun w hw => by
    rcases insL_mem hw with h | h
    · exact l5_all h3 w (piece_mem h)
    · exact l5_all h5 w h
  have hin : (insL m.To (pieceS m many)).all (fun w => inRange m.Low m.High w.Key) = true := List.all_eq_true.2 fun w hw => by
    rcases insL_mem hw with h | h
    · exact h4 w (piece_mem h)
    · exact h6 w h
  have hrow : l22Rows m.Low m.High (insL m.To (pieceS m many)) = decide (((insL m.To (pieceS m many)).length : Int) ≤ 24) := by
    unfold l22Rows; rw [hin, l5_mk hadj hall, Bool.true_and]
  have hlast : (lastKey (pieceS m many) m.Last != [] && !l3Key (lastKey (pieceS m many) m.Last)) = false := by
    rcases lastKey_or (pieceS m many) m.Last with h | ⟨w, hw, h⟩
    · rw [h]
      rw [goodMove_eq] at hg
      unfold goodMoveS at hg
      split at hg
      · cases hg
      · rename_i hh
        simp only [Bool.or_eq_true, not_or] at hh
        simpa using hh.2
    · rw [h]
      have := (l5_all h3 w (piece_mem hw)).2
      unfold wGood l3Write at this
      simp only [Bool.and_eq_true] at this
      rw [this.1.1]; simp
  unfold goodMoveS pieceMS
  simp only
  rw [putLS_ins (l5_adj h5), hrow, hlast, ← areInRange_eq, h1, ← areEnds_eq, h0, hp]
  by_cases hn : ((insL m.To (pieceS m many)).length : Int) ≤ 24
  · simp [hn, within]
  · simp [hn, within]
theorem stepMS_of {m n : TMove} {a : TMoveAct} {b : Bool} (h : doS m a = (n, b)) : stepMS m a = if b = true then (n, true) else (m, false) := by unfold stepMS; rw [h]
theorem stepM_eq {m : TMove} {a : TMoveAct} (hg : goodMove m = true) (ha : isMoveAct m a = true) : stepM m a = stepMS m a := by
  by_cases h1 : a.Kind = 1
  · have hd : doS m a = putMS m a.Write := by unfold doS; rw [if_pos h1]
    unfold stepM stepMS
    rw [if_pos h1, hd, putM_eq hg (act_put ha h1).1]
  · by_cases hp : m.Phase = 1
    · have hb : (m.Phase != 1) = false := by simp [hp]
      by_cases h2 : a.Kind = 2
      · have h3 : (a.Kind == 3) = false := beq_false_of_ne (by omega)
        have hd : doS m a = (pieceMS m a.Many, goodMoveS (pieceMS m a.Many)) := by unfold doS; rw [if_neg h1, hb, h3, if_neg (by simp), if_pos h2]
        have hs : stepM m a = pieceM m a.Many := by unfold stepM; rw [if_neg h1, if_neg (by omega), if_pos h2]
        rw [stepMS_of hd, hs]
        obtain ⟨h5, h6⟩ := goodMove_l5 hg
        have hadj := l5_adj h6
        have hlive : livesL (insL m.To (pieceS m a.Many)) = insL m.To (pieceS m a.Many) := livesL_id fun w hw => by
          rcases insL_mem hw with h | h
          · exact (l5_all h5 w (piece_mem h)).1
          · exact (l5_all h6 w h).1
        unfold pieceM
        rw [pieceOf_eq, pieceMS_good hg hp, pieceS_len m (act_many0 ha h2)]
        unfold putRows
        rw [putL_ins hadj, hlive]
        by_cases hn : ((insL m.To (pieceS m a.Many)).length : Int) ≤ 24
        · have hn2 : ¬ (24 : Int) < ((insL m.To (pieceS m a.Many)).length : Int) := by omega
          have hn3 : decide (((insL m.To (pieceS m a.Many)).length : Int) ≤ 24) = true := decide_eq_true hn
          rw [if_neg hn2, hn3, if_pos rfl, if_neg (by simp)]
          unfold pieceMS
          rw [putLS_ins hadj]
          rfl
        · have hn2 : (24 : Int) < ((insL m.To (pieceS m a.Many)).length : Int) := by omega
          have hn3 : decide (((insL m.To (pieceS m a.Many)).length : Int) ≤ 24) = false := decide_eq_false hn
          rw [if_pos hn2, hn3, if_pos rfl, if_neg (by decide)]
      · by_cases h3 : a.Kind = 3
        · have hb3 : (a.Kind == 3) = true := by simp [h3]
          cases ho : m.Over
          · have hd : doS m a = (m, false) := by unfold doS; rw [if_neg h1, hb3, ho, if_pos (by simp)]
            have hs : stepM m a = (m, false) := by unfold stepM; rw [if_neg h1, if_neg (by omega), if_neg h2, hb3, ho, if_neg (by simp), if_neg (by omega)]
            rw [stepMS_of hd, hs]; rfl
          · have hd : doS m a = (⟨m.Low, m.High, 2, [], m.To, [], false⟩, true) := by unfold doS; rw [if_neg h1, hb, ho, if_neg (by simp), if_neg h2, if_pos h3]
            have hs : stepM m a = (⟨m.Low, m.High, 2, [], m.To, [], false⟩, true) := by unfold stepM; rw [if_neg h1, if_neg (by omega), if_neg h2, hb3, ho, if_pos (by simp)]
            rw [stepMS_of hd, hs]; rfl
        · have hb3 : (a.Kind == 3) = false := beq_false_of_ne h3
          have h4 : a.Kind = 4 := by have := act_kind ha; omega
          have hd : doS m a = (⟨m.Low, m.High, 1, m.From, [], [], false⟩, true) := by unfold doS; rw [if_neg h1, hb, hb3, if_neg (by simp), if_neg h2, if_neg h3]
          have hs : stepM m a = (⟨m.Low, m.High, 1, m.From, [], [], false⟩, true) := by unfold stepM; rw [if_neg h1, if_neg (by omega), if_neg h2, hb3, if_neg (by simp), if_pos h4, hp]
          rw [stepMS_of hd, hs]; rfl
    · have hb : (m.Phase != 1) = true := by simpa using hp
      have hd : doS m a = (m, false) := by unfold doS; rw [if_neg h1, hb, if_pos (by simp)]
      have hs : stepM m a = (m, false) := by unfold stepM; rw [if_neg h1, if_pos hp]
      rw [stepMS_of hd, hs]; rfl
theorem move_lens {m : TMove} (h : m.size ≤ 1048576) : m.From.length ≤ 1048576 ∧ m.To.length ≤ 1048576 := by
  have h1 := sizeL_len (f := TWrite.size) (l := m.From)
  have h2 := sizeL_len (f := TWrite.size) (l := m.To)
  unfold TMove.size at h; omega
theorem putMS_len (m : TMove) (w : TWrite) : (putMS m w).1.From.length ≤ m.From.length + 1 ∧ (putMS m w).1.To.length ≤ m.To.length + 1 := by
  have hp : ∀ l : List TWrite, (putRowsS l [w]).1.length ≤ l.length + 1 := fun l => by
    unfold putRowsS
    split
    · simp
    · have := putLS_len [w] l
      have h2 := List.length_filter_le (fun w : TWrite => !w.Gone) (putLS l [w])
      simp only [List.length_cons, List.length_nil] at this
      unfold livesL; simp only; omega
  unfold putMS
  split
  · simp
  · simp only
    constructor
    · split
      · exact hp _
      · omega
    · split
      · exact hp _
      · omega
theorem stepMS_len {m : TMove} {a : TMoveAct} : (stepMS m a).1.From.length ≤ m.From.length + 1 ∧ (stepMS m a).1.To.length ≤ m.To.length + m.From.length + 1 := by
  unfold stepMS
  split
  · simp only
    unfold doS
    split
    · have := putMS_len m a.Write; omega
    · split
      · simp only; omega
      · split
        · have h1 := putLS_len (pieceS m a.Many) m.To
          have h2 : (pieceS m a.Many).length ≤ m.From.length := ((List.take_sublist _ _).trans List.filter_sublist).length_le
          unfold pieceMS; simp only; omega
        · split <;> simp <;> omega
  · simp only; omega
theorem stepMove_len (m : TMove) (a : TMoveAct) : (stepMove m a).1.From.length ≤ m.From.length + 1 ∧ (stepMove m a).1.To.length ≤ m.To.length + m.From.length + 1 := by
  unfold stepMove
  split
  · rename_i h
    simp only [Bool.and_eq_true] at h
    rw [stepM_eq h.1 h.2]
    exact stepMS_len
  · exact ⟨Nat.zero_le _, Nat.zero_le _⟩
theorem stepMove_eq (m : TMove) (a : TMoveAct) : stepMove m a = stepMoveS m a := by
  unfold stepMove stepMoveS
  rw [← goodMove_eq, ← isMoveAct_eq]
  split
  · rename_i h
    simp only [Bool.and_eq_true] at h
    rw [stepM_eq h.1 h.2]
  · rfl
end Go.M
