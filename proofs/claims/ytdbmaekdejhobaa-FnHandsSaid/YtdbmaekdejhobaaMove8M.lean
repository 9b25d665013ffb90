/- Plain law: a run of a migration. -/
import Derived.Test.YtdbmaekdejhobaaMove7M
set_option linter.unusedVariables false
set_option linter.unusedSimpArgs false
namespace Go.M
def oneI (m : TMove) (a : TMoveAct) : TMove × Bool := if isMoveAct m a = true then stepM m a else (m, false)
def oneS (m : TMove) (a : TMoveAct) : TMove × Bool := if l22Good m a = true then stepMS m a else (m, false)
def runI (m : TMove) (l : List TMoveAct) : TMove × List Bool := l.foldl (fun r a => ((oneI r.1 a).1, r.2 ++ [(oneI r.1 a).2])) (m, [])
def runS (m : TMove) (l : List TMoveAct) : TMove × List Bool := l.foldl (fun r a => ((oneS r.1 a).1, r.2 ++ [(oneS r.1 a).2])) (m, [])
theorem runI_snoc (m : TMove) (l : List TMoveAct) (a : TMoveAct) : runI m (l ++ [a]) = ((oneI (runI m l).1 a).1, (runI m l).2 ++ [(oneI (runI m l).1 a).2]) := by unfold runI; rw [List.foldl_append]; rfl
theorem runS_snoc (m : TMove) (l : List TMoveAct) (a : TMoveAct) : runS m (l ++ [a]) = ((oneS (runS m l).1 a).1, (runS m l).2 ++ [(oneS (runS m l).1 a).2]) := by unfold runS; rw [List.foldl_append]; rfl
theorem runI_next {m : TMove} {l : List TMoveAct} {i : Nat} {a : TMoveAct} (h : l[i]? = some a) : runI m (l.take (i + 1)) = ((oneI (runI m (l.take i)).1 a).1, (runI m (l.take i)).2 ++ [(oneI (runI m (l.take i)).1 a).2]) := by
  rw [List.take_add_one, h]; exact runI_snoc _ _ _
theorem runS_next {m : TMove} {l : List TMoveAct} {i : Nat} {a : TMoveAct} (h : l[i]? = some a) : runS m (l.take (i + 1)) = ((oneS (runS m (l.take i)).1 a).1, (runS m (l.take i)).2 ++ [(oneS (runS m (l.take i)).1 a).2]) := by
  rw [List.take_add_one, h]; exact runS_snoc _ _ _
def playMove (m : TMove) (l : List TMoveAct) : TMove × List Bool × Bool := if (!goodMove m || decide ((30 : Int) < (l.length : Int))) = true then (noMove, [], false) else ((runI m l).1, (runI m l).2, true)
def playMoveS (m : TMove) (l : List TMoveAct) : TMove × List Bool × Bool := if (!goodMoveS m || decide ((30 : Int) < (l.length : Int))) = true then (noMove, [], false) else ((runS m l).1, (runS m l).2, true)
/-! ### A step keeps a migration good -/
theorem goodMove_mk {m : TMove} (h0 : areEnds m.Low m.High = true) (h1 : areInRange m m.From = true) (h2 : areInRange m m.To = true) (h3 : (m.Phase = 2 ∧ m.From = [] ∧ m.Last = [] ∧ m.Over = false) ∨ (m.Phase = 1 ∧ (m.Last = [] ∨ goodKey m.Last = true))) : goodMove m = true := by
  unfold goodMove
  rw [h0, h1, h2]
  rcases h3 with ⟨p, q, r, s⟩ | ⟨p, q⟩
  · rw [if_neg (by decide), if_pos p, q, r, s]; rfl
  · rw [if_neg (by decide), if_neg (by omega), p]
    rcases q with q | q
    · simp [q]
    · simp [q]
theorem goodMove_phase {m : TMove} (h : goodMove m = true) : (m.Phase = 2 ∧ m.From = [] ∧ m.Last = [] ∧ m.Over = false) ∨ (m.Phase = 1 ∧ (m.Last = [] ∨ goodKey m.Last = true)) := by
  unfold goodMove at h
  split at h
  · cases h
  · split at h
    · rename_i hp
      refine .inl ⟨hp, ?_⟩
      simpa [and_assoc] using h
    · refine .inr ?_
      simpa using h
theorem inRow_mk {m : TMove} {l : List TWrite} (h1 : l5Rows l = true) (h2 : ∀ w ∈ l, inRange m.Low m.High w.Key = true) : areInRange m l = true := by
  rw [areInRange_eq]; unfold l22Rows; rw [h1, Bool.and_true, List.all_eq_true]; exact h2
theorem inRange_same {m n : TMove} {l : List TWrite} (h : areInRange m l = true) (h1 : n.Low = m.Low) (h2 : n.High = m.High) : areInRange n l = true := by
  obtain ⟨h3, h4⟩ := inRow h
  exact inRow_mk h3 (by rw [h1, h2]; exact h4)
theorem putRowsS_in {m : TMove} {l : List TWrite} {w : TWrite} (h : areInRange m l = true) (hw : l3Writes [w] = true) (hi : inRange m.Low m.High w.Key = true) (ho : (putRowsS l [w]).2 = true) : areInRange m (putRowsS l [w]).1 = true := by
  obtain ⟨h1, h2⟩ := inRow h
  unfold putRowsS at ho ⊢
  split at ho
  · cases ho
  · rename_i hh
    rw [if_neg hh]
    simp only [Bool.or_eq_true, Bool.not_eq_true', not_or, Bool.not_eq_false] at hh
    refine inRow_mk hh.2 fun x hx => ?_
    rw [putLS_ins (l5_adj h1)] at hx
    rcases insL_mem (List.mem_filter.1 hx).1 with h3 | h3
    · rw [List.mem_singleton.1 h3]; exact hi
    · exact h2 x h3
theorem stepMS_good {m : TMove} {a : TMoveAct} (hg : goodMove m = true) (ha : isMoveAct m a = true) : goodMove (stepMS m a).1 = true := by
  obtain ⟨g0, g1, g2⟩ := goodMove_rows hg
  have gp := goodMove_phase hg
  unfold stepMS
  split
  · rename_i hd
    simp only
    by_cases k1 : a.Kind = 1
    · obtain ⟨w1, w2, _⟩ := act_put ha k1
      have he : doS m a = putMS m a.Write := by unfold doS; rw [if_pos k1]
      rw [he] at hd ⊢
      unfold putMS at hd ⊢
      split at hd
      · cases hd
      · rename_i hb
        rw [if_neg hb]
        have hb2 : ((m.Phase == 1) && !(putRowsS m.From [a.Write]).2) = false ∧ (putBoth m a.Write && !(putRowsS m.To [a.Write]).2) = false := by
          simpa [putBad] using hb
        have f1 : areInRange m (if m.Phase = 1 then (putRowsS m.From [a.Write]).1 else m.From) = true := by
          by_cases hp : m.Phase = 1
          · rw [if_pos hp]
            have ho : (putRowsS m.From [a.Write]).2 = true := by
              have h9 := hb2.1
              rw [hp] at h9
              simpa using h9
            exact putRowsS_in g1 w1 w2 ho
          · rw [if_neg hp]; exact g1
        have f2 : areInRange m (if putBoth m a.Write = true then (putRowsS m.To [a.Write]).1 else m.To) = true := by
          by_cases hp : putBoth m a.Write = true
          · rw [if_pos hp]
            have ho : (putRowsS m.To [a.Write]).2 = true := by
              have h9 := hb2.2
              rw [hp, Bool.true_and] at h9
              simpa using h9
            exact putRowsS_in g2 w1 w2 ho
          · rw [if_neg hp]; exact g2
        refine goodMove_mk g0 (inRange_same f1 rfl rfl) (inRange_same f2 rfl rfl) ?_
        · rcases gp with ⟨p1, p2, p3, p4⟩ | ⟨p1, p2⟩
          · exact .inl ⟨p1, by show (if m.Phase = 1 then _ else m.From) = []; rw [if_neg (by omega)]; exact p2, p3, p4⟩
          · exact .inr ⟨p1, p2⟩
    · by_cases hp : ((m.Phase != 1) || ((a.Kind == 3) && !m.Over)) = true
      · have he : doS m a = (m, false) := by unfold doS; rw [if_neg k1, if_pos hp]
        rw [he] at hd; cases hd
      · have hph : m.Phase = 1 := by
          by_cases h : m.Phase = 1
          · exact h
          · exact absurd (by simp [h]) hp
        by_cases k2 : a.Kind = 2
        · have he : doS m a = (pieceMS m a.Many, goodMoveS (pieceMS m a.Many)) := by unfold doS; rw [if_neg k1, if_neg hp, if_pos k2]
          rw [he] at hd ⊢
          rw [goodMove_eq]; exact hd
        · by_cases k3 : a.Kind = 3
          · have he : doS m a = (⟨m.Low, m.High, 2, [], m.To, [], false⟩, true) := by unfold doS; rw [if_neg k1, if_neg hp, if_neg k2, if_pos k3]
            rw [he]
            exact goodMove_mk g0 rfl (inRange_same g2 rfl rfl) (.inl ⟨rfl, rfl, rfl, rfl⟩)
          · have he : doS m a = (⟨m.Low, m.High, 1, m.From, [], [], false⟩, true) := by unfold doS; rw [if_neg k1, if_neg hp, if_neg k2, if_neg k3]
            rw [he]
            exact goodMove_mk g0 (inRange_same g1 rfl rfl) rfl (.inr ⟨rfl, .inl rfl⟩)
  · exact hg
theorem oneI_eq {m : TMove} (hg : goodMove m = true) (a : TMoveAct) : oneI m a = oneS m a := by
  unfold oneI oneS
  rw [← isMoveAct_eq]
  split
  · rename_i h; exact stepM_eq hg h
  · rfl
theorem oneS_good {m : TMove} (hg : goodMove m = true) (a : TMoveAct) : goodMove (oneS m a).1 = true := by
  unfold oneS
  rw [← isMoveAct_eq]
  split
  · rename_i h; exact stepMS_good hg h
  · exact hg
def stI (r : TMove × List Bool) (a : TMoveAct) : TMove × List Bool := ((oneI r.1 a).1, r.2 ++ [(oneI r.1 a).2])
def stS (r : TMove × List Bool) (a : TMoveAct) : TMove × List Bool := ((oneS r.1 a).1, r.2 ++ [(oneS r.1 a).2])
theorem foldS_good : ∀ (l : List TMoveAct) (r : TMove × List Bool), goodMove r.1 = true → goodMove (l.foldl stS r).1 = true
  | [], _, h => h
  | a :: l, r, h => foldS_good l (stS r a) (oneS_good h a)
theorem foldI_eq : ∀ (l : List TMoveAct) (r : TMove × List Bool), goodMove r.1 = true → l.foldl stI r = l.foldl stS r
  | [], _, _ => rfl
  | a :: l, r, h => by
    have e : stI r a = stS r a := by unfold stI stS; rw [oneI_eq h]
    simp only [List.foldl_cons]
    rw [e]
    exact foldI_eq l (stS r a) (oneS_good h a)
theorem foldI_len : ∀ (l : List TMoveAct) (r : TMove × List Bool), (l.foldl stI r).2.length = r.2.length + l.length
  | [], _ => rfl
  | a :: l, r => by
    simp only [List.foldl_cons, List.length_cons]
    rw [foldI_len l (stI r a)]
    unfold stI; simp only [List.length_append, List.length_cons, List.length_nil]; omega
theorem foldS_len : ∀ (l : List TMoveAct) (r : TMove × List Bool), (l.foldl stS r).2.length = r.2.length + l.length
  | [], _ => rfl
  | a :: l, r => by
    simp only [List.foldl_cons, List.length_cons]
    rw [foldS_len l (stS r a)]
    unfold stS; simp only [List.length_append, List.length_cons, List.length_nil]; omega
theorem runS_good {m : TMove} (hg : goodMove m = true) (l : List TMoveAct) : goodMove (runS m l).1 = true := foldS_good l (m, []) hg
theorem runI_eq {m : TMove} (hg : goodMove m = true) (l : List TMoveAct) : runI m l = runS m l := foldI_eq l (m, []) hg
theorem runI_good {m : TMove} (hg : goodMove m = true) (l : List TMoveAct) : goodMove (runI m l).1 = true := by rw [runI_eq hg]; exact runS_good hg l
theorem runI_len (m : TMove) (l : List TMoveAct) : (runI m l).2.length = l.length := (foldI_len l (m, [])).trans (Nat.zero_add _)
theorem runS_len (m : TMove) (l : List TMoveAct) : (runS m l).2.length = l.length := (foldS_len l (m, [])).trans (Nat.zero_add _)
theorem playMove_eq (m : TMove) (l : List TMoveAct) : playMove m l = playMoveS m l := by
  unfold playMove playMoveS
  rw [← goodMove_eq]
  split
  · rfl
  · rename_i h
    have hg : goodMove m = true := by cases hg : goodMove m with | true => rfl | false => (rw [hg] at h; simp at h)
    rw [runI_eq hg]
end Go.M
