/- Plain law: what is read behind a run of a migration. -/
import Derived.Test.YtdbmaekdejhobaaHandM
set_option linter.unusedVariables false
set_option linter.unusedSimpArgs false
namespace Go.M
/-- The rows that serve. -/
def rowsOf (m : TMove) : List TWrite := if m.Phase = 2 then m.To else m.From
theorem rows_pos {l : List TWrite} (h : l5Rows l = true) : ∀ w ∈ l, w.Key ≠ [] := fun w hw => by
  have hk := (l5_all h w hw).2
  unfold wGood l3Write at hk
  simp only [Bool.and_eq_true] at hk
  exact goodKey_pos (by rw [goodKey_eq]; exact hk.1.1)
theorem mk_copied {low high : Str} {rows : List TWrite} (hg : goodMove (mkMove low high rows) = true) : copiedM (mkMove low high rows) := by
  right
  unfold mkMove
  simp only [Bool.false_or]
  rw [List.filter_eq_nil_iff]
  intro w hw hs
  have h1 := rows_pos (goodMove_l5 hg).1 w hw
  unfold sleM at hs
  simp only [Bool.or_eq_true, beq_iff_eq] at hs
  rcases hs with hs | hs
  · cases hw2 : w.Key <;> (rw [hw2] at hs; simp [Op.bytesLess] at hs)
  · exact h1 hs
theorem stepMS_rows {m : TMove} {a : TMoveAct} (hg : goodMove m = true) (ha : isMoveAct m a = true) (hc : copiedM m) :
    (stepMS m a).1.Low = m.Low ∧ (stepMS m a).1.High = m.High ∧ ((a.Kind = 1 ∧ (stepMS m a).2 = true) → putRowsS (rowsOf m) [a.Write] = (rowsOf (stepMS m a).1, true)) ∧
    (¬ (a.Kind = 1 ∧ (stepMS m a).2 = true) → rowsOf (stepMS m a).1 = rowsOf m) := by
  have gp := goodMove_phase hg
  unfold stepMS
  split
  · rename_i hd
    simp only [and_true]
    by_cases k1 : a.Kind = 1
    · have he : doS m a = putMS m a.Write := by unfold doS; rw [if_pos k1]
      rw [he] at hd ⊢
      unfold putMS at hd ⊢
      split at hd
      · cases hd
      · rename_i hb
        rw [if_neg hb]
        have hb2 : ((m.Phase == 1) && !(putRowsS m.From [a.Write]).2) = false ∧ (putBoth m a.Write && !(putRowsS m.To [a.Write]).2) = false := by
          simpa [putBad] using hb
        refine ⟨rfl, rfl, fun _ => ?_, fun h => absurd k1 h⟩
        rcases gp with ⟨p1, _⟩ | ⟨p1, _⟩
        · have hpb : putBoth m a.Write = true := by unfold putBoth; rw [p1]; rfl
          have h9 := hb2.2
          rw [hpb, Bool.true_and] at h9
          have ho : (putRowsS m.To [a.Write]).2 = true := by simpa using h9
          unfold rowsOf
          simp only [p1, if_true, hpb]
          exact Prod.ext rfl ho
        · have h9 := hb2.1
          rw [p1] at h9
          have ho : (putRowsS m.From [a.Write]).2 = true := by simpa using h9
          unfold rowsOf
          rw [if_neg (by omega)]
          simp only [p1, if_true]
          rw [if_neg (by omega)]
          exact Prod.ext rfl ho
    · by_cases hp : ((m.Phase != 1) || ((a.Kind == 3) && !m.Over)) = true
      · have he : doS m a = (m, false) := by unfold doS; rw [if_neg k1, if_pos hp]
        rw [he] at hd; cases hd
      · have hph : m.Phase = 1 := by
          by_cases h : m.Phase = 1
          · exact h
          · exact absurd (by simp [h]) hp
        by_cases k2 : a.Kind = 2
        · have he : doS m a = (pieceMS m a.Many, goodMoveS (pieceMS m a.Many)) := by unfold doS; rw [if_neg k1, if_neg hp, if_pos k2]
          rw [he]
          refine ⟨rfl, rfl, fun h => absurd h k1, fun _ => ?_⟩
          unfold rowsOf pieceMS
          simp only
          rw [if_neg (by omega), if_neg (by omega)]
        · by_cases k3 : a.Kind = 3
          · have he : doS m a = (⟨m.Low, m.High, 2, [], m.To, [], false⟩, true) := by unfold doS; rw [if_neg k1, if_neg hp, if_neg k2, if_pos k3]
            rw [he]
            refine ⟨rfl, rfl, fun h => absurd h k1, fun _ => ?_⟩
            have hov : m.Over = true := by
              cases ho : m.Over with
              | true => rfl
              | false => exact absurd (by simp [k3, ho]) hp
            rcases hc with hc | hc
            · omega
            · rw [hov] at hc
              have ht : m.From.filter (fun w => true || sleM w.Key m.Last) = m.From := by rw [List.filter_eq_self]; intro w _; rfl
              rw [ht] at hc
              unfold rowsOf
              rw [if_pos rfl, if_neg (by omega)]
              exact hc.symm
          · have he : doS m a = (⟨m.Low, m.High, 1, m.From, [], [], false⟩, true) := by unfold doS; rw [if_neg k1, if_neg hp, if_neg k2, if_neg k3]
            rw [he]
            refine ⟨rfl, rfl, fun h => absurd h k1, fun _ => ?_⟩
            show (if (1 : Int) = 2 then ([] : List TWrite) else m.From) = if m.Phase = 2 then m.To else m.From
            rw [if_neg (by decide), if_neg (by omega)]
  · exact ⟨rfl, rfl, fun h => (by cases h.2), fun _ => rfl⟩
/-- What holds behind each act of a run of a new migration. -/
def runOk (low high : Str) (m : TMove) : Prop := goodMove m = true ∧ copiedM m ∧ m.Low = low ∧ m.High = high
theorem oneS_rows {low high : Str} {m : TMove} (a : TMoveAct) (h : runOk low high m) :
    runOk low high (oneS m a).1 ∧ ((a.Kind = 1 ∧ (oneS m a).2 = true) → putRowsS (rowsOf m) [a.Write] = (rowsOf (oneS m a).1, true)) ∧
    (¬ (a.Kind = 1 ∧ (oneS m a).2 = true) → rowsOf (oneS m a).1 = rowsOf m) := by
  obtain ⟨hg, hc, h1, h2⟩ := h
  unfold oneS
  rw [← isMoveAct_eq]
  split
  · rename_i ha
    obtain ⟨q1, q2, q3, q4⟩ := stepMS_rows hg ha hc
    exact ⟨⟨stepMS_good hg ha, copied_step hg ha hc, q1.trans h1, q2.trans h2⟩, q3, q4⟩
  · exact ⟨⟨hg, hc, h1, h2⟩, fun h => (by cases h.2), fun _ => rfl⟩
/-- The state behind the first i acts, and what they did. -/
def stAt (m : TMove) (l : List TMoveAct) (i : Nat) : TMove := (runS m (l.take i)).1
theorem runS_take (m : TMove) (l : List TMoveAct) : ∀ (i : Nat) (a : TMoveAct), l[i]? = some a → stAt m l (i + 1) = (oneS (stAt m l i) a).1 := fun i a h => by
  unfold stAt; rw [runS_next h]
theorem runS_dids (m : TMove) (l : List TMoveAct) : ∀ (i k : Nat) (a : TMoveAct), i < k → l[i]? = some a → (runS m (l.take k)).2[i]? = some (oneS (stAt m l i) a).2 := fun i k => by
  induction k with
  | zero => intro a h; omega
  | succ k ih =>
    intro a h ha
    cases hk : l[k]? with
    | none =>
      have hl : l.length ≤ k := by simpa using hk
      have hlt := (List.getElem?_eq_some_iff.1 ha).1
      have hr := ih a (by omega) ha
      rw [List.take_of_length_le hl] at hr
      rw [List.take_of_length_le (show l.length ≤ k + 1 by omega)]
      exact hr
    | some b =>
      rw [runS_next hk]
      have hlen : (runS m (l.take k)).2.length = k := by
        rw [runS_len, List.length_take]; have := (List.getElem?_eq_some_iff.1 hk).1; omega
      rcases Nat.lt_or_ge i k with hik | hik
      · rw [List.getElem?_append_left (by omega)]; exact ih a hik ha
      · obtain rfl : i = k := by omega
        rw [ha] at hk; injection hk with hk; subst hk
        rw [List.getElem?_append_right (by omega), hlen, Nat.sub_self]; rfl
theorem runS_did (m : TMove) (l : List TMoveAct) {i : Nat} {a : TMoveAct} (ha : l[i]? = some a) : (runS m l).2[i]? = some (oneS (stAt m l i) a).2 := by
  have h := runS_dids m l i l.length a (List.getElem?_eq_some_iff.1 ha).1 ha
  rwa [List.take_length] at h
theorem stAt_ok {low high : Str} {m : TMove} (h : runOk low high m) (l : List TMoveAct) : ∀ i, runOk low high (stAt m l i)
  | 0 => h
  | i + 1 => by
    cases hk : l[i]? with
    | none =>
      have hl : l.length ≤ i := by simpa using hk
      have ih := stAt_ok h l i
      unfold stAt at ih ⊢
      rw [List.take_of_length_le hl] at ih
      rw [List.take_of_length_le (show l.length ≤ i + 1 by omega)]
      exact ih
    | some a => rw [runS_take m l i a hk]; exact (oneS_rows a (stAt_ok h l i)).1
theorem stAt_end (m : TMove) (l : List TMoveAct) : stAt m l l.length = (runS m l).1 := by unfold stAt; rw [List.take_length]
theorem find_uniq {l : List TWrite} {k : Str} {w : TWrite} (ha : adj wLess l = true) (h : findW l k = some w) : ∀ v ∈ l, v.Key = k → v = w := fun v hv hk => by
  unfold findW at h
  have h1 := List.find?_some h
  have h2 := List.mem_of_find?_eq_some h
  simp only [beq_iff_eq] at h1
  obtain ⟨i, hi⟩ := List.getElem?_of_mem hv
  obtain ⟨j, hj⟩ := List.getElem?_of_mem h2
  rcases Nat.lt_trichotomy i j with hlt | heq | hgt
  · have h9 := adj_get wLess_trans ha hlt hi hj
    unfold wLess at h9; rw [hk, h1, bytesLess_irrefl] at h9; cases h9
  · subst heq; rw [hi] at hj; injection hj
  · have h9 := adj_get wLess_trans ha hgt hj hi
    unfold wLess at h9; rw [hk, h1, bytesLess_irrefl] at h9; cases h9
def hasK (l : List TWrite) (k : Str) : Bool := l.any fun w => w.Key == k
theorem read_ok {n : TMove} {k : Str} (hg : goodMove n = true) (hk : goodKey k = true) :
    (readMove n k).2.2.2 = inRange n.Low n.High k ∧ ((readMove n k).2.2.2 = true → (readMove n k).2.2.1 = n.Phase ∧ (readMove n k).2.1 = hasK (rowsOf n) k ∧ ∀ w ∈ rowsOf n, w.Key = k → (readMove n k).1 = w.Val) := by
  have ha : adj wLess (rowsOf n) = true := by
    obtain ⟨_, h1, h2⟩ := goodMove_rows hg
    unfold rowsOf; split; exact rows_adj h2; exact rows_adj h1
  rw [readMove_eq]
  unfold readMoveS
  rw [← goodMove_eq, hg, ← goodKey_eq, hk]
  simp only [Bool.not_true, Bool.false_or]
  cases hr : inRange n.Low n.High k with
  | false => simp
  | true =>
    simp only [Bool.not_true, Bool.false_eq_true, if_false]
    show (readRes (findW (rowsOf n) k) n.Phase).2.2.2 = true ∧ ((readRes (findW (rowsOf n) k) n.Phase).2.2.2 = true → (readRes (findW (rowsOf n) k) n.Phase).2.2.1 = n.Phase ∧ (readRes (findW (rowsOf n) k) n.Phase).2.1 = hasK (rowsOf n) k ∧ ∀ w ∈ rowsOf n, w.Key = k → (readRes (findW (rowsOf n) k) n.Phase).1 = w.Val)
    cases hf : findW (rowsOf n) k with
    | none =>
      refine ⟨rfl, fun _ => ⟨rfl, ?_, fun w hw he => ?_⟩⟩
      · symm
        show (rowsOf n).any _ = false
        rw [List.any_eq_false]
        exact fun w hw => List.find?_eq_none.1 (show (rowsOf n).find? _ = none from hf) w hw
      · have := List.find?_eq_none.1 (show (rowsOf n).find? _ = none from hf) w hw
        simp [he] at this
    | some w0 =>
      refine ⟨rfl, fun _ => ⟨rfl, ?_, fun w hw he => ?_⟩⟩
      · symm
        show (rowsOf n).any _ = true
        rw [List.any_eq_true]
        have hf2 : (rowsOf n).find? (fun w => w.Key == k) = some w0 := hf
        exact ⟨w0, List.mem_of_find?_eq_some hf2, by have h9 := List.find?_some hf2; exact h9⟩
      · show w0.Val = w.Val
        rw [find_uniq ha hf w hw he]
theorem end_from {n : TMove} (hg : goodMove n = true) : n.Phase = 1 ∨ n.From = [] := by
  rcases goodMove_phase hg with h | h
  · exact .inr h.2.1
  · exact .inl h.1
theorem within_ok {low high k : Str} (he : areEnds low high = true) (hk : goodKey k = true) : isWithinS low high k = (inRange low high k, true) := by
  rw [← isWithin_eq]
  unfold isWithin
  rw [he, hk]; rfl
end Go.M
