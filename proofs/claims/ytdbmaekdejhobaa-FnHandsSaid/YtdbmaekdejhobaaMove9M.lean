/- Plain law: what has been copied stays what it should be. -/
import Derived.Test.YtdbmaekdejhobaaMove8M
set_option linter.unusedVariables false
set_option linter.unusedSimpArgs false
namespace Go.M
theorem ins_front {w : TWrite} : ∀ {l : List TWrite}, (∀ y ∈ l, Op.bytesLess w.Key y.Key = true) → ins l w = w :: l
  | [], _ => rfl
  | y :: l, h => by
    have h1 := h y List.mem_cons_self
    unfold ins
    rw [if_neg (by intro hc; have := bytesLess_trans h1 hc; rw [bytesLess_irrefl] at this; cases this), if_neg (by intro hc; rw [hc, bytesLess_irrefl] at h1; cases h1)]
theorem key_cases (a b : Str) : Op.bytesLess a b = true ∨ a = b ∨ Op.bytesLess b a = true := by
  have h := bytesLess_tri a b
  cases h1 : Op.bytesLess a b
  · cases h2 : Op.bytesLess b a
    · rw [h1, h2] at h; simp at h; exact .inr (.inl h.symm)
    · exact .inr (.inr rfl)
  · exact .inl rfl
/-- A set of keys that goes from the least one up. -/
def Down (q : Str → Bool) : Prop := ∀ a b, Op.bytesLess a b = true → q b = true → q a = true
theorem ins_filter {q : Str → Bool} (hq : Down q) {w : TWrite} : ∀ {l : List TWrite}, adj wLess l = true → (ins l w).filter (fun x => q x.Key) = if q w.Key = true then ins (l.filter fun x => q x.Key) w else l.filter fun x => q x.Key
  | [], _ => by
    unfold ins
    by_cases h : q w.Key = true
    · rw [if_pos h]; simp [h, ins]
    · rw [if_neg h]; simp [h]
  | x :: l, ha => by
    have ih := ins_filter hq (w := w) (adj_tail ha)
    have hp := (adj_pair wLess_trans).1 ha
    conv => lhs; unfold ins
    rcases key_cases x.Key w.Key with h | h | h
    · rw [if_pos h]
      by_cases hw : q w.Key = true
      · have hx := hq _ _ h hw
        rw [List.filter_cons_of_pos (by simpa using hx), List.filter_cons_of_pos (by simpa using hx), ih, if_pos hw, if_pos hw]
        conv => rhs; unfold ins
        rw [if_pos h]
      · rw [if_neg hw] at ih ⊢
        by_cases hx : q x.Key = true
        · rw [List.filter_cons_of_pos (by simpa using hx), List.filter_cons_of_pos (by simpa using hx), ih]
        · rw [List.filter_cons_of_neg (by simpa using hx), List.filter_cons_of_neg (by simpa using hx), ih]
    · rw [if_neg (by rw [h, bytesLess_irrefl]; decide), if_pos h]
      by_cases hw : q w.Key = true
      · have hx : q x.Key = true := by rw [h]; exact hw
        rw [List.filter_cons_of_pos (by simpa using hw), List.filter_cons_of_pos (by simpa using hx), if_pos hw]
        unfold ins
        rw [if_neg (by rw [h, bytesLess_irrefl]; decide), if_pos h]
      · have hx : ¬ q x.Key = true := by rw [h]; exact hw
        rw [List.filter_cons_of_neg (by simpa using hw), List.filter_cons_of_neg (by simpa using hx), if_neg hw]
    · rw [if_neg (by intro hc; have := bytesLess_trans hc h; rw [bytesLess_irrefl] at this; cases this), if_neg (by intro hc; rw [hc, bytesLess_irrefl] at h; cases h)]
      by_cases hw : q w.Key = true
      · rw [List.filter_cons_of_pos (by simpa using hw), if_pos hw]
        refine (ins_front fun y hy => ?_).symm
        have hy2 := (List.mem_filter.1 hy).1
        rcases List.mem_cons.1 hy2 with rfl | hy2
        · exact h
        · exact bytesLess_trans h (List.rel_of_pairwise_cons hp hy2)
      · rw [List.filter_cons_of_neg (by simpa using hw), if_neg hw]
theorem ins_self {w : TWrite} : ∀ {l : List TWrite}, adj wLess l = true → w ∈ l → ins l w = l
  | [], _, h => by simp at h
  | x :: l, ha, h => by
    have hp := (adj_pair wLess_trans).1 ha
    unfold ins
    rcases List.mem_cons.1 h with rfl | h
    · rw [if_neg (by rw [bytesLess_irrefl]; decide), if_pos rfl]
    · have hlt : Op.bytesLess x.Key w.Key = true := List.rel_of_pairwise_cons hp h
      rw [if_pos hlt, ins_self (adj_tail ha) h]
theorem insL_self : ∀ {ws l : List TWrite}, adj wLess l = true → (∀ w ∈ ws, w ∈ l) → insL l ws = l
  | [], _, _, _ => rfl
  | w :: ws, l, ha, h => by
    show insL (ins l w) ws = l
    rw [ins_self ha (h w List.mem_cons_self)]
    exact insL_self ha fun v hv => h v (List.mem_cons_of_mem _ hv)
theorem ins_back {w : TWrite} : ∀ {l : List TWrite}, (∀ y ∈ l, Op.bytesLess y.Key w.Key = true) → ins l w = l ++ [w]
  | [], _ => rfl
  | y :: l, h => by
    unfold ins
    rw [if_pos (h y List.mem_cons_self), ins_back fun z hz => h z (List.mem_cons_of_mem _ hz)]; rfl
theorem insL_back : ∀ {ws l : List TWrite}, adj wLess ws = true → (∀ w ∈ ws, ∀ y ∈ l, Op.bytesLess y.Key w.Key = true) → insL l ws = l ++ ws
  | [], l, _, _ => by simp [insL]
  | w :: ws, l, ha, h => by
    have hp := (adj_pair wLess_trans).1 ha
    show insL (ins l w) ws = _
    rw [ins_back (h w List.mem_cons_self), insL_back (adj_tail ha) fun v hv y hy => ?_, List.append_assoc]
    · rfl
    · rcases List.mem_append.1 hy with hy | hy
      · exact h v (List.mem_cons_of_mem _ hv) y hy
      · rw [List.mem_singleton.1 hy]; exact List.rel_of_pairwise_cons hp hv
theorem filter_split {q : Str → Bool} (hq : Down q) : ∀ {l : List TWrite}, adj wLess l = true → (l.filter fun x => q x.Key) ++ (l.filter fun x => !q x.Key) = l
  | [], _ => rfl
  | x :: l, ha => by
    have hp := (adj_pair wLess_trans).1 ha
    by_cases hx : q x.Key = true
    · rw [List.filter_cons_of_pos (by simpa using hx), List.filter_cons_of_neg (by simp [hx]), List.cons_append, filter_split hq (adj_tail ha)]
    · have h0 : (l.filter fun x => q x.Key) = [] := by
        rw [List.filter_eq_nil_iff]
        intro y hy hc
        exact hx (hq _ _ (List.rel_of_pairwise_cons hp hy) hc)
      have h1 : (l.filter fun x => !q x.Key) = l := by
        rw [List.filter_eq_self]
        intro y hy
        have := List.filter_eq_nil_iff.1 h0 y hy
        simpa using this
      rw [List.filter_cons_of_neg (by simpa using hx), List.filter_cons_of_pos (by simpa using hx), h0, h1]; rfl
theorem sleM_down (last : Str) (o : Bool) : Down fun k => o || sleM k last := fun a b h1 h2 => by
  simp only [Bool.or_eq_true] at h2 ⊢
  refine h2.imp id fun h3 => ?_
  unfold sleM at h3 ⊢
  simp only [Bool.or_eq_true, beq_iff_eq] at h3 ⊢
  refine .inl ?_
  rcases h3 with h3 | h3
  · exact bytesLess_trans h1 h3
  · rw [← h3]; exact h1
def copiedM (m : TMove) : Prop := m.Phase = 2 ∨ m.From.filter (fun w => m.Over || sleM w.Key m.Last) = m.To
theorem l22Copied_iff (m : TMove) : l22Copied m = true ↔ copiedM m := by
  unfold l22Copied copiedM
  split
  · rename_i h; simp [h]
  · rename_i h; simp only [decide_eq_true_eq, h, false_or]; rfl
theorem livesL_filter (l : List TWrite) (q : Str → Bool) : (livesL l).filter (fun x => q x.Key) = livesL (l.filter fun x => q x.Key) := by
  unfold livesL; rw [List.filter_filter, List.filter_filter]; congr 1; funext x; exact Bool.and_comm _ _
theorem copied_put {m : TMove} {w : TWrite} (hg : goodMove m = true) (hw : l3Writes [w] = true) (hc : copiedM m) : copiedM (if (putMS m w).2 = true then (putMS m w).1 else m) := by
  split
  · rename_i hd
    rcases hc with hp | hc
    · left
      unfold putMS at hd ⊢
      split
      · exact hp
      · exact hp
    · by_cases hp : m.Phase = 2
      · left
        unfold putMS
        split <;> exact hp
      · have hp1 : m.Phase = 1 := by rcases goodMove_phase hg with h | h; exact absurd h.1 hp; exact h.1
        obtain ⟨g1, g2⟩ := goodMove_l5 hg
        unfold putMS at hd ⊢
        split at hd
        · cases hd
        · rename_i hb
          rw [if_neg hb]
          have hb2 : (putRowsS m.From [w]).2 = true ∧ (putBoth m w = true → (putRowsS m.To [w]).2 = true) := by
            unfold putBad at hb
            rw [hp1] at hb
            simpa using hb
          have hF : (putRowsS m.From [w]).1 = livesL (ins m.From w) := by
            have h9 := hb2.1
            unfold putRowsS at h9 ⊢
            split at h9
            · cases h9
            · rename_i hh; rw [if_neg hh, putLS_ins (l5_adj g1)]; rfl
          right
          simp only
          rw [if_pos hp1, hF, livesL_filter _ (fun k => m.Over || sleM k m.Last), ins_filter (sleM_down m.Last m.Over) (l5_adj g1), hc]
          have hpb : putBoth m w = (m.Over || sleM w.Key m.Last) := by
            unfold putBoth
            rw [show (m.Phase == 2) = false from by simp [hp1], Bool.false_or]
          by_cases hbo : (m.Over || sleM w.Key m.Last) = true
          · rw [if_pos hbo, if_pos (by rw [hpb]; exact hbo)]
            have h9 := hb2.2 (by rw [hpb]; exact hbo)
            unfold putRowsS at h9 ⊢
            split at h9
            · cases h9
            · rename_i hh; rw [if_neg hh, putLS_ins (l5_adj g2)]; rfl
          · rw [if_neg hbo, if_neg (by rw [hpb]; exact hbo)]
            exact livesL_id fun v hv => (l5_all g2 v hv).1
  · exact hc
theorem leftM_eq (m : TMove) : leftM m = m.From.filter fun w => !sleM w.Key m.Last := rfl
theorem take_filter {l : List TWrite} {n : Nat} {y : TWrite} (ha : adj wLess l = true) (hy : l[n]? = some y) : l.filter (fun x => sleM x.Key y.Key) = l.take (n + 1) := by
  have hp := (adj_pair wLess_trans).1 ha
  have hsp : l = l.take (n + 1) ++ l.drop (n + 1) := (List.take_append_drop _ _).symm
  have h1 : (l.take (n + 1)).filter (fun x => sleM x.Key y.Key) = l.take (n + 1) := by
    rw [List.filter_eq_self]
    intro x hx
    obtain ⟨i, hi⟩ := List.getElem?_of_mem hx
    have hin : i < n + 1 := by have := (List.getElem?_eq_some_iff.1 hi).1; rw [List.length_take] at this; omega
    rw [List.getElem?_take_of_lt hin] at hi
    unfold sleM
    rcases Nat.lt_or_ge i n with h | h
    · have h9 : Op.bytesLess x.Key y.Key = true := adj_get wLess_trans ha h hi hy
      rw [h9]; rfl
    · have : i = n := by omega
      subst this
      rw [hy] at hi; injection hi with hi; subst hi; simp
  have h2 : (l.drop (n + 1)).filter (fun x => sleM x.Key y.Key) = [] := by
    rw [List.filter_eq_nil_iff]
    intro x hx
    obtain ⟨i, hi⟩ := List.getElem?_of_mem hx
    rw [List.getElem?_drop] at hi
    have h9 : Op.bytesLess y.Key x.Key = true := adj_get wLess_trans ha (show n < n + 1 + i by omega) hy hi
    unfold sleM
    simp only [Bool.or_eq_true, beq_iff_eq, not_or]
    refine ⟨fun hc => ?_, fun hc => ?_⟩
    · have := bytesLess_trans h9 hc; rw [bytesLess_irrefl] at this; cases this
    · rw [hc, bytesLess_irrefl] at h9; cases h9
  conv => lhs; rw [hsp]
  rw [List.filter_append, h1, h2, List.append_nil]
theorem copied_piece {m : TMove} {many : Int} (hg : goodMove m = true) (hm : 0 ≤ many) (hp1 : m.Phase = 1) (hc : copiedM m) : copiedM (pieceMS m many) := by
  have hc : m.From.filter (fun w => m.Over || sleM w.Key m.Last) = m.To := by
    rcases hc with h | h
    · omega
    · exact h
  obtain ⟨g1, g2⟩ := goodMove_l5 hg
  have ha := l5_adj g1
  right
  unfold pieceMS
  simp only
  rw [putLS_ins (l5_adj g2)]
  cases ho : m.Over
  · rw [ho] at hc
    simp only [Bool.false_or] at hc ⊢
    have hd : Down fun k => sleM k m.Last := by have := sleM_down m.Last false; simpa using this
    have hsplit : m.To ++ leftM m = m.From := by rw [leftM_eq, ← hc]; exact filter_split hd ha
    have hadjL : adj wLess (leftM m) = true := adj_filter _ ha
    have hsep : ∀ w ∈ pieceS m many, ∀ y ∈ m.To, Op.bytesLess y.Key w.Key = true := fun w hw y hy => by
      have h1 := (List.mem_filter.1 (List.mem_of_mem_take hw)).2
      rw [← hc] at hy
      have h2 := (List.mem_filter.1 hy).2
      rcases key_cases y.Key w.Key with h | h | h
      · exact h
      · unfold gtLast at h1; unfold sleM at h2; rw [h] at h2; rw [h2] at h1; simp at h1
      · have h3 : sleM w.Key m.Last = true := hd _ _ h h2
        unfold gtLast at h1; unfold sleM at h3; rw [h3] at h1; simp at h1
    rw [insL_back (show adj wLess (pieceS m many) = true from adj_take _ hadjL) hsep]
    by_cases hn : leastI many (leftM m).length = ((leftM m).length : Int)
    · have hall : pieceS m many = leftM m := by
        unfold pieceS; rw [hn, Int.toNat_natCast, List.take_length]
      rw [hall, hsplit]
      have hb : (leastI many (leftM m).length == ((leftM m).length : Int)) = true := by simpa using hn
      rw [hb]
      simp
    · have hb : (leastI many (leftM m).length == ((leftM m).length : Int)) = false := by simpa using hn
      rw [hb]
      simp only [Bool.false_or]
      have hlen := pieceS_len m hm
      have hlt : leastI many (leftM m).length = many ∧ many < (leftM m).length := by unfold leastI at hn ⊢; split at hn <;> (split <;> omega)
      cases hk : many.toNat with
      | zero =>
        have hnil : pieceS m many = [] := by unfold pieceS; rw [hlt.1, hk]; rfl
        rw [hnil, lastKey_none rfl, List.append_nil]
        exact hc
      | succ n =>
        obtain ⟨y, hy⟩ := Go.AV.get_some (show n < (leftM m).length by omega)
        have hpe : pieceS m many = (leftM m).take (n + 1) := by unfold pieceS; rw [hlt.1, hk]
        rw [hpe, lastKey_take hy]
        have hyl : sleM y.Key m.Last = false := by
          have h1 := (List.mem_filter.1 (List.mem_of_getElem? hy)).2
          unfold gtLast at h1; unfold sleM; simpa using h1
        have hTo : m.To.filter (fun w => sleM w.Key y.Key) = m.To := by
          rw [List.filter_eq_self]
          intro x hx
          rw [← hc] at hx
          have h2 := (List.mem_filter.1 hx).2
          rcases key_cases x.Key y.Key with h | h | h
          · unfold sleM; rw [h]; rfl
          · unfold sleM; simp [h]
          · have h3 : sleM y.Key m.Last = true := hd _ _ h h2
            rw [hyl] at h3; cases h3
        conv => lhs; rw [← hsplit]
        rw [List.filter_append, hTo, take_filter hadjL hy]
  · rw [ho] at hc
    have ht : ∀ (q : TWrite → Bool), m.From.filter (fun w => true || q w) = m.From := fun q => by rw [List.filter_eq_self]; intro w _; rfl
    rw [ht fun w => sleM w.Key m.Last] at hc
    rw [← hc]
    refine Eq.trans (b := m.From) ?_ ?_
    · rw [List.filter_eq_self]; intro w _; simp
    exact (insL_self ha fun w hw => piece_mem hw).symm
theorem goodKey_pos {k : Str} (h : goodKey k = true) : k ≠ [] := by
  intro hc; subst hc
  unfold goodKey at h; simp only [Bool.and_eq_true, within_iff] at h
  have := h.1.1; simp at this
theorem copied_step {m : TMove} {a : TMoveAct} (hg : goodMove m = true) (ha : isMoveAct m a = true) (hc : copiedM m) : copiedM (stepMS m a).1 := by
  by_cases k1 : a.Kind = 1
  · have h := copied_put hg (act_put ha k1).1 hc
    have he : doS m a = putMS m a.Write := by unfold doS; rw [if_pos k1]
    unfold stepMS
    rw [he]
    split
    · rename_i hd; rw [if_pos hd] at h; exact h
    · exact hc
  · unfold stepMS
    split
    · rename_i hd
      simp only
      by_cases hp : ((m.Phase != 1) || ((a.Kind == 3) && !m.Over)) = true
      · have he : doS m a = (m, false) := by unfold doS; rw [if_neg k1, if_pos hp]
        rw [he] at hd; cases hd
      · have hph : m.Phase = 1 := by
          by_cases h : m.Phase = 1
          · exact h
          · exact absurd (by simp [h]) hp
        by_cases k2 : a.Kind = 2
        · have he : doS m a = (pieceMS m a.Many, goodMoveS (pieceMS m a.Many)) := by unfold doS; rw [if_neg k1, if_neg hp, if_pos k2]
          rw [he]
          exact copied_piece hg (act_many0 ha k2) hph hc
        · by_cases k3 : a.Kind = 3
          · have he : doS m a = (⟨m.Low, m.High, 2, [], m.To, [], false⟩, true) := by unfold doS; rw [if_neg k1, if_neg hp, if_neg k2, if_pos k3]
            rw [he]; exact .inl rfl
          · have he : doS m a = (⟨m.Low, m.High, 1, m.From, [], [], false⟩, true) := by unfold doS; rw [if_neg k1, if_neg hp, if_neg k2, if_neg k3]
            rw [he]
            right
            simp only [Bool.false_or]
            rw [List.filter_eq_nil_iff]
            intro w hw hs
            have hk := (l5_all (goodMove_l5 hg).1 w hw).2
            unfold wGood l3Write at hk
            simp only [Bool.and_eq_true] at hk
            have hk2 : goodKey w.Key = true := by rw [goodKey_eq]; exact hk.1.1
            unfold sleM at hs
            simp only [Bool.or_eq_true, beq_iff_eq] at hs
            rcases hs with hs | hs
            · cases hw2 : w.Key <;> (rw [hw2] at hs; simp [Op.bytesLess] at hs)
            · exact goodKey_pos hk2 hs
    · exact hc
theorem stepMove_size (m : TMove) (a : TMoveAct) : (stepMove m a).1.size ≤ 2048 := by
  unfold stepMove
  split
  · rename_i hh
    simp only [Bool.and_eq_true] at hh
    simp only
    rw [stepM_eq hh.1 hh.2]
    exact goodMove_size (stepMS_good hh.1 hh.2)
  · exact Nat.zero_le _
theorem stepMove_ok (m : TMove) (a : TMoveAct) : (stepMove m a).2.2 = (goodMove m && isMoveAct m a) := by
  unfold stepMove; split
  · rename_i h; rw [h]
  · rename_i h; simpa using h
theorem isCopied_step {m : TMove} {a : TMoveAct} (h : (stepMove m a).2.2 = true) : goodMove (stepMove m a).1 = true ∧ (isCopied (stepMove m a).1).2 = true ∧ ((isCopied m).1 = true → (isCopied (stepMove m a).1).1 = true) := by
  unfold stepMove at h ⊢
  split at h
  · rename_i hh
    simp only [Bool.and_eq_true] at hh
    rw [if_pos (by simp [hh.1, hh.2])]
    simp only
    rw [stepM_eq hh.1 hh.2]
    have hg2 := stepMS_good hh.1 hh.2
    refine ⟨hg2, ?_, fun hc => ?_⟩
    · rw [isCopied_eq]; unfold isCopiedS; rw [← goodMove_eq, hg2]; rfl
    · rw [isCopied_eq] at hc ⊢
      unfold isCopiedS at hc ⊢
      rw [← goodMove_eq, hh.1] at hc
      rw [← goodMove_eq, hg2]
      simp only [Bool.not_true, Bool.false_eq_true, if_false] at hc ⊢
      exact (l22Copied_iff _).2 (copied_step hh.1 hh.2 ((l22Copied_iff _).1 hc))
  · cases h
end Go.M
