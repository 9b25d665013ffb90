/- Plain functions: writes put into rows. -/
import Derived.Test.YtdbmaekdejhobaaMove4M
set_option linter.unusedVariables false
set_option linter.unusedSimpArgs false
namespace Go.M
/-- A write put into rising rows, in the place of one of its key. -/
def ins : List TWrite → TWrite → List TWrite
  | [], w => [w]
  | x :: l, w => if Op.bytesLess x.Key w.Key = true then x :: ins l w else if x.Key = w.Key then w :: l else w :: x :: l
theorem ins_at {w : TWrite} : ∀ {l : List TWrite} {p : Nat}, p ≤ l.length → (∀ i x, i < p → l[i]? = some x → Op.bytesLess x.Key w.Key = true) → (∀ x, l[p]? = some x → Op.bytesLess x.Key w.Key = false) →
    ins l w = if (∃ x, l[p]? = some x ∧ x.Key = w.Key) then l.set p w else l.take p ++ w :: l.drop p
  | [], p, hp, _, _ => by simp at hp; subst hp; simp [ins]
  | x :: l, 0, _, _, h2 => by
    have h := h2 x rfl
    unfold ins
    rw [h]
    by_cases hk : x.Key = w.Key
    · rw [if_neg (by decide), if_pos hk, if_pos ⟨x, rfl, hk⟩]; rfl
    · rw [if_neg (by decide), if_neg hk, if_neg (fun ⟨y, hy, hyk⟩ => by simp at hy; subst hy; exact hk hyk)]; rfl
  | x :: l, p + 1, hp, h1, h2 => by
    have h := h1 0 x (by omega) rfl
    unfold ins
    rw [if_pos h, ins_at (l := l) (p := p) (by simpa using hp) (fun i y hi hy => h1 (i + 1) y (by omega) (by simpa using hy)) (fun y hy => h2 y (by simpa using hy))]
    simp only [List.getElem?_cons_succ, List.set_cons_succ, List.take_succ_cons, List.drop_succ_cons]
    split <;> simp
def putW (l : List TWrite) (w : TWrite) : List TWrite := if wHas l w.Key = true then l.set (wPos l w.Key) w else l.take (wPos l w.Key) ++ w :: l.drop (wPos l w.Key)
theorem bs_le {α : Type} (f : α → Int) (l : List α) : ∀ (d i j : Nat), j - i = d → i ≤ j → j ≤ l.length → bs f l i j ≤ j := by
  intro d
  induction d using Nat.strongRecOn with
  | _ d ih =>
    intro i j hd hij hjl
    by_cases h : i < j
    · obtain ⟨x, hx⟩ := Go.AV.get_some (show (i + j) / 2 < l.length by omega)
      by_cases hf : f x < 0
      · rw [bs_lo h hx hf]
        exact ih (j - ((i + j) / 2 + 1)) (by omega) _ _ rfl (by omega) hjl
      · rw [bs_hi h hx hf]
        exact Nat.le_trans (ih ((i + j) / 2 - i) (by omega) _ _ rfl (by omega) (by omega)) (by omega)
    · rw [bs_end h]; exact hij
theorem wPos_le (l : List TWrite) (k : Str) : wPos l k ≤ l.length := bs_le _ _ _ _ _ rfl (Nat.zero_le _) (Nat.le_refl _)
theorem wHas_iff {l : List TWrite} {k : Str} : wHas l k = true ↔ ∃ x, l[wPos l k]? = some x ∧ x.Key = k := by
  unfold wHas bsAt
  cases h : l[wPos l k]? with
  | none => simp
  | some x => simp [wCmp, cmpStr_zero]
theorem putW_ins {l : List TWrite} (h : adj wLess l = true) (w : TWrite) : putW l w = ins l w := by
  obtain ⟨h1, h2⟩ := wPos_spec h w.Key
  rw [ins_at (wPos_le l w.Key) h1 h2]
  unfold putW
  by_cases hw : wHas l w.Key = true
  · rw [if_pos hw, if_pos (wHas_iff.1 hw)]
  · rw [if_neg hw, if_neg (fun h => hw (wHas_iff.2 h))]
/-- Where the reference's search from behind stops. -/
def scanW (l : List TWrite) (k : Str) : Nat → Nat
  | 0 => 0
  | n + 1 => match l[n]? with
    | some x => if Op.bytesLess k x.Key = true then scanW l k n else n + 1
    | none => n + 1
def hitW (l : List TWrite) (k : Str) : Nat → Bool
  | 0 => false
  | n + 1 => match l[n]? with
    | some x => x.Key == k
    | none => false
def putWS (l : List TWrite) (w : TWrite) : List TWrite :=
  if hitW l w.Key (scanW l w.Key l.length) = true then l.set (scanW l w.Key l.length - 1) w else l.take (scanW l w.Key l.length) ++ w :: l.drop (scanW l w.Key l.length)
theorem scanW_le (l : List TWrite) (k : Str) : ∀ n, scanW l k n ≤ n
  | 0 => Nat.le_refl _
  | n + 1 => by
    unfold scanW
    split
    · split
      · exact Nat.le_succ_of_le (scanW_le l k n)
      · exact Nat.le_refl _
    · exact Nat.le_refl _
theorem scanW_spec (l : List TWrite) (k : Str) : ∀ n, n ≤ l.length → (∀ i x, scanW l k n ≤ i → i < n → l[i]? = some x → Op.bytesLess k x.Key = true) ∧ (∀ x, 0 < scanW l k n → l[scanW l k n - 1]? = some x → Op.bytesLess k x.Key = false)
  | 0, _ => ⟨fun i x h1 h2 => by omega, fun x h => by simp [scanW] at h⟩
  | n + 1, hn => by
    obtain ⟨x, hx⟩ := Go.AV.get_some (show n < l.length by omega)
    have ih := scanW_spec l k n (by omega)
    unfold scanW
    simp only [hx]
    by_cases hb : Op.bytesLess k x.Key = true
    · rw [if_pos hb]
      refine ⟨fun i y h1 h2 hy => ?_, ih.2⟩
      rcases Nat.lt_or_ge i n with h3 | h3
      · exact ih.1 i y h1 h3 hy
      · have : i = n := by omega
        subst this
        rw [hx] at hy; injection hy with hy; subst hy; exact hb
    · rw [if_neg hb]
      refine ⟨fun i y h1 h2 hy => by omega, fun y _ hy => ?_⟩
      rw [Nat.add_sub_cancel, hx] at hy; injection hy with hy; subst hy
      simpa using hb
theorem putWS_ins {l : List TWrite} (h : adj wLess l = true) (w : TWrite) : putWS l w = ins l w := by
  obtain ⟨h1, h2⟩ := scanW_spec l w.Key l.length (Nat.le_refl _)
  have hle := scanW_le l w.Key l.length
  unfold putWS
  generalize scanW l w.Key l.length = k at *
  cases k with
  | zero =>
    rw [if_neg (by simp [hitW]), ins_at (l := l) (p := 0) (Nat.zero_le _) (fun i x h => by omega) (fun x hx => by
      have h3 := h1 0 x (Nat.le_refl _) (List.getElem?_eq_some_iff.1 hx).1 hx
      cases hb : Op.bytesLess x.Key w.Key with
      | false => rfl
      | true => have := bytesLess_trans h3 hb; rw [bytesLess_irrefl] at this; cases this)]
    rw [if_neg]
    intro ⟨x, hx, hk⟩
    have h3 := h1 0 x (Nat.le_refl _) (List.getElem?_eq_some_iff.1 hx).1 hx
    rw [hk, bytesLess_irrefl] at h3; cases h3
  | succ n =>
    obtain ⟨x, hx⟩ := Go.AV.get_some (show n < l.length by omega)
    have h3 := h2 x (by omega) (by simpa using hx)
    have htri := bytesLess_tri x.Key w.Key
    by_cases hk : x.Key = w.Key
    · rw [if_pos (by simp [hitW, hx, hk]), Nat.add_sub_cancel]
      rw [ins_at (l := l) (p := n) (by omega) (fun i y hi hy => by have := adj_get wLess_trans h hi hy hx; unfold wLess at this; rw [hk] at this; exact this) (fun y hy => by rw [hx] at hy; injection hy with hy; subst hy; rw [hk, bytesLess_irrefl])]
      rw [if_pos ⟨x, hx, hk⟩]
    · have hlt : Op.bytesLess x.Key w.Key = true := by rw [h3] at htri; cases hb : Op.bytesLess x.Key w.Key with | true => rfl | false => (rw [hb] at htri; simp at htri; exact absurd htri.symm hk)
      rw [if_neg (by simp [hitW, hx, hk])]
      have hno : ∀ y, l[n + 1]? = some y → Op.bytesLess w.Key y.Key = true := fun y hy => h1 (n + 1) y (Nat.le_refl _) (List.getElem?_eq_some_iff.1 hy).1 hy
      rw [ins_at (l := l) (p := n + 1) hle (fun i y hi hy => by
        rcases Nat.lt_or_ge i n with h4 | h4
        · have := adj_get wLess_trans h h4 hy hx
          exact bytesLess_trans this hlt
        · have : i = n := by omega
          subst this
          rw [hx] at hy; injection hy with hy; subst hy; exact hlt) (fun y hy => by
        cases hb : Op.bytesLess y.Key w.Key with
        | false => rfl
        | true => have := bytesLess_trans (hno y hy) hb; rw [bytesLess_irrefl] at this; cases this)]
      rw [if_neg]
      intro ⟨y, hy, hyk⟩
      have := hno y hy
      rw [hyk, bytesLess_irrefl] at this; cases this
theorem putW_eq {l : List TWrite} (h : adj wLess l = true) (w : TWrite) : putW l w = putWS l w := (putW_ins h w).trans (putWS_ins h w).symm
/-! ### What putting in keeps -/
theorem adj_pair {α : Type} {p : α → α → Bool} (tr : ∀ a b c, p a b = true → p b c = true → p a c = true) : ∀ {l : List α}, adj p l = true ↔ l.Pairwise fun a b => p a b = true
  | [] => by simp [adj]
  | [x] => by simp [adj]
  | x :: y :: l => by
    rw [adj, Bool.and_eq_true, adj_pair tr, List.pairwise_cons (a := x)]
    constructor
    · intro ⟨h1, h2⟩
      refine ⟨fun z hz => ?_, h2⟩
      rcases List.mem_cons.1 hz with rfl | hz
      · exact h1
      · exact tr _ _ _ h1 (List.rel_of_pairwise_cons h2 hz)
    · intro ⟨h1, h2⟩
      exact ⟨h1 y List.mem_cons_self, h2⟩
theorem adj_filter {l : List TWrite} (q : TWrite → Bool) (h : adj wLess l = true) : adj wLess (l.filter q) = true :=
  (adj_pair wLess_trans).2 (((adj_pair wLess_trans).1 h).filter q)
theorem adj_take {l : List TWrite} (n : Nat) (h : adj wLess l = true) : adj wLess (l.take n) = true :=
  (adj_pair wLess_trans).2 (((adj_pair wLess_trans).1 h).sublist (List.take_sublist n l))
theorem ins_mem {w x : TWrite} : ∀ {l : List TWrite}, x ∈ ins l w → x = w ∨ x ∈ l
  | [], h => by simp [ins] at h; exact .inl h
  | y :: l, h => by
    unfold ins at h
    split at h
    · rcases List.mem_cons.1 h with rfl | h
      · exact .inr List.mem_cons_self
      · exact (ins_mem h).imp id (List.mem_cons_of_mem _)
    · split at h
      · rcases List.mem_cons.1 h with rfl | h
        · exact .inl rfl
        · exact .inr (List.mem_cons_of_mem _ h)
      · rcases List.mem_cons.1 h with rfl | h
        · exact .inl rfl
        · exact .inr h
theorem ins_adj {w : TWrite} : ∀ {l : List TWrite}, adj wLess l = true → adj wLess (ins l w) = true
  | [], _ => rfl
  | y :: l, h => by
    have hp := (adj_pair wLess_trans).1 h
    refine (adj_pair wLess_trans).2 ?_
    unfold ins
    split
    · rename_i hlt
      have ih := (adj_pair wLess_trans).1 (ins_adj (w := w) (adj_tail h))
      refine List.pairwise_cons.2 ⟨fun z hz => ?_, ih⟩
      rcases ins_mem hz with rfl | hz
      · exact hlt
      · exact List.rel_of_pairwise_cons hp hz
    · rename_i hnlt
      split
      · rename_i hk
        refine List.pairwise_cons.2 ⟨fun z hz => ?_, (List.pairwise_cons.1 hp).2⟩
        have := List.rel_of_pairwise_cons hp hz
        unfold wLess at this ⊢
        rw [← hk]; exact this
      · rename_i hk
        have hgt : Op.bytesLess w.Key y.Key = true := by
          have := bytesLess_tri y.Key w.Key
          cases hb : Op.bytesLess w.Key y.Key with
          | true => rfl
          | false => rw [hb] at this; simp at hnlt; rw [hnlt] at this; simp at this; exact absurd this.symm hk
        refine List.pairwise_cons.2 ⟨fun z hz => ?_, hp⟩
        rcases List.mem_cons.1 hz with rfl | hz
        · exact hgt
        · exact bytesLess_trans hgt (List.rel_of_pairwise_cons hp hz)
theorem ins_len {w : TWrite} : ∀ {l : List TWrite}, l.length ≤ (ins l w).length ∧ (ins l w).length ≤ l.length + 1
  | [] => by simp [ins]
  | y :: l => by
    unfold ins
    have ih := ins_len (w := w) (l := l)
    split
    · simp; omega
    · split <;> simp
theorem gt_less (a b : Str) : (!(Op.bytesLess a b || a == b)) = Op.bytesLess b a := by
  have h := bytesLess_tri a b
  cases h1 : Op.bytesLess a b
  · cases h2 : Op.bytesLess b a
    · rw [h1, h2] at h; simp at h; simp [h]
    · simp; intro hc; subst hc; rw [bytesLess_irrefl] at h2; cases h2
  · simp; cases h2 : Op.bytesLess b a with
    | false => rfl
    | true => have := bytesLess_trans h1 h2; rw [bytesLess_irrefl] at this; cases this
theorem scanW_step {l : List TWrite} {k : Str} {n : Nat} {x : TWrite} (hx : l[n]? = some x) (h : Op.bytesLess k x.Key = true) : scanW l k (n + 1) = scanW l k n := by
  conv => lhs; unfold scanW
  simp only [hx, h, if_true]
theorem scanW_stop {l : List TWrite} {k : Str} {n : Nat} {x : TWrite} (hx : l[n]? = some x) (h : Op.bytesLess k x.Key = false) : scanW l k (n + 1) = n + 1 := by
  unfold scanW
  simp only [hx, h, Bool.false_eq_true, if_false]
def insL (l ws : List TWrite) : List TWrite := ws.foldl ins l
theorem insL_adj : ∀ {ws l : List TWrite}, adj wLess l = true → adj wLess (insL l ws) = true
  | [], _, h => h
  | w :: ws, l, h => insL_adj (ws := ws) (ins_adj h)
theorem insL_mem {x : TWrite} : ∀ {ws l : List TWrite}, x ∈ insL l ws → x ∈ ws ∨ x ∈ l
  | [], _, h => .inr h
  | w :: ws, l, h => by
    rcases insL_mem (ws := ws) (l := ins l w) h with h | h
    · exact .inl (List.mem_cons_of_mem _ h)
    · rcases ins_mem h with rfl | h
      · exact .inl List.mem_cons_self
      · exact .inr h
theorem insL_len : ∀ {ws l : List TWrite}, (insL l ws).length ≤ l.length + ws.length
  | [], l => by simp [insL]
  | w :: ws, l => by
    have h1 := insL_len (ws := ws) (l := ins l w)
    have h2 := (ins_len (w := w) (l := l)).2
    show (insL (ins l w) ws).length ≤ _
    simp only [List.length_cons]; omega
def putL (l ws : List TWrite) : List TWrite := ws.foldl putW l
def putLS (l ws : List TWrite) : List TWrite := ws.foldl putWS l
theorem putL_ins : ∀ {ws l : List TWrite}, adj wLess l = true → putL l ws = insL l ws
  | [], _, _ => rfl
  | w :: ws, l, h => by
    show putL (putW l w) ws = insL (ins l w) ws
    rw [putW_ins h, putL_ins (ins_adj h)]
theorem putLS_ins : ∀ {ws l : List TWrite}, adj wLess l = true → putLS l ws = insL l ws
  | [], _, _ => rfl
  | w :: ws, l, h => by
    show putLS (putWS l w) ws = insL (ins l w) ws
    rw [putWS_ins h, putLS_ins (ins_adj h)]
theorem putWS_len (l : List TWrite) (w : TWrite) : (putWS l w).length ≤ l.length + 1 := by
  unfold putWS; split
  · simp
  · simp; omega
theorem putW_len (l : List TWrite) (w : TWrite) : (putW l w).length ≤ l.length + 1 := by
  unfold putW; split
  · simp
  · simp; omega
theorem putLS_len : ∀ (ws l : List TWrite), (putLS l ws).length ≤ l.length + ws.length
  | [], l => by simp [putLS]
  | w :: ws, l => by
    have h1 := putLS_len ws (putWS l w)
    have h2 := putWS_len l w
    show (putLS (putWS l w) ws).length ≤ _
    simp only [List.length_cons]; omega
theorem putL_len : ∀ (ws l : List TWrite), (putL l ws).length ≤ l.length + ws.length
  | [], l => by simp [putL]
  | w :: ws, l => by
    have h1 := putL_len ws (putW l w)
    have h2 := putW_len l w
    show (putL (putW l w) ws).length ≤ _
    simp only [List.length_cons]; omega
theorem putL_snoc (l ws : List TWrite) (w : TWrite) : putL l (ws ++ [w]) = putW (putL l ws) w := by unfold putL; rw [List.foldl_append]; rfl
theorem putLS_snoc (l ws : List TWrite) (w : TWrite) : putLS l (ws ++ [w]) = putWS (putLS l ws) w := by unfold putLS; rw [List.foldl_append]; rfl
def livesL (l : List TWrite) : List TWrite := l.filter fun w => !w.Gone
/-- The program's putRows. -/
def putRows (rows ws : List TWrite) : List TWrite × Bool := if (24 : Int) < ((livesL (putL rows ws)).length : Int) then ([], false) else (livesL (putL rows ws), true)
/-- The reference's PutRows. -/
def putRowsS (rows ws : List TWrite) : List TWrite × Bool := if (!l5Rows rows || !l3Writes ws || !l5Rows (livesL (putLS rows ws))) = true then ([], false) else (livesL (putLS rows ws), true)
theorem l5_adj {l : List TWrite} (h : l5Rows l = true) : adj wLess l = true := by
  unfold l5Rows l3Writes at h; simp only [Bool.and_eq_true] at h; exact h.2.1.2
theorem l5_all {l : List TWrite} (h : l5Rows l = true) : ∀ w ∈ l, w.Gone = false ∧ wGood w = true := by
  unfold l5Rows l3Writes at h; simp only [Bool.and_eq_true, List.all_eq_true] at h
  exact fun w hw => ⟨by simpa using h.1 w hw, h.2.1.1 w hw⟩
theorem l5_len {l : List TWrite} (h : l5Rows l = true) : l.length ≤ 24 := by
  unfold l5Rows l3Writes at h; simp only [Bool.and_eq_true, decide_eq_true_eq] at h; omega
theorem l5_mk {l : List TWrite} (h1 : adj wLess l = true) (h2 : ∀ w ∈ l, w.Gone = false ∧ wGood w = true) : l5Rows l = decide ((l.length : Int) ≤ 24) := by
  unfold l5Rows l3Writes
  have h3 : (l.all fun w => !w.Gone) = true := List.all_eq_true.2 fun w hw => by simp [(h2 w hw).1]
  have h4 : l.all wGood = true := List.all_eq_true.2 fun w hw => (h2 w hw).2
  rw [h1, h3, h4]; simp
theorem live_all {rows ws : List TWrite} (hr : l5Rows rows = true) (hw : ∀ w ∈ ws, wGood w = true) : ∀ w ∈ livesL (insL rows ws), w.Gone = false ∧ wGood w = true := fun w h => by
  obtain ⟨h1, h2⟩ := List.mem_filter.1 h
  refine ⟨by simpa using h2, ?_⟩
  rcases insL_mem h1 with h3 | h3
  · exact hw w h3
  · exact (l5_all hr w h3).2
theorem putRows_eq {rows ws : List TWrite} (hr : l5Rows rows = true) (hw : l3Writes ws = true) : putRows rows ws = putRowsS rows ws := by
  have ha := l5_adj hr
  have hg : ∀ w ∈ ws, wGood w = true := by unfold l3Writes at hw; simp only [Bool.and_eq_true, List.all_eq_true] at hw; exact hw.1.1
  unfold putRows putRowsS
  rw [putL_ins ha, putLS_ins ha, hr, hw, l5_mk (l := livesL (insL rows ws)) (adj_filter _ (insL_adj ha)) (live_all hr hg)]
  by_cases h : (24 : Int) < ((livesL (insL rows ws)).length : Int)
  · rw [if_pos h, if_pos (by simp; omega)]
  · rw [if_neg h, if_neg (by simp; omega)]
theorem sizeW_app {α : Type} (f : α → Nat) (a b : List α) : sizeL f (a ++ b) = sizeL f a + sizeL f b := by
  unfold sizeL; simp only [List.length_append, List.map_append, List.sum_append]; omega
theorem sizeW_cons {α : Type} (f : α → Nat) (x : α) (b : List α) : sizeL f (x :: b) = f x + 1 + sizeL f b := by
  unfold sizeL; simp only [List.length_cons, List.map_cons, List.sum_cons]; omega
theorem sizeW_ins {α : Type} (f : α → Nat) (l : List α) (n : Nat) (x : α) : sizeL f (l.take n ++ x :: l.drop n) = sizeL f l + f x + 1 := by
  have h := congrArg (sizeL f) (List.take_append_drop n l)
  rw [sizeW_app] at h
  rw [sizeW_app, sizeW_cons]; omega
theorem sizeW_set {α : Type} (f : α → Nat) (x : α) : ∀ (l : List α) (n : Nat), sizeL f (l.set n x) ≤ sizeL f l + f x
  | [], n => by simp
  | y :: l, 0 => by rw [List.set_cons_zero, sizeW_cons, sizeW_cons]; omega
  | y :: l, n + 1 => by rw [List.set_cons_succ, sizeW_cons, sizeW_cons]; have := sizeW_set f x l n; omega
theorem sizeW_sub {α : Type} {f : α → Nat} {l m : List α} (h : List.Sublist m l) : sizeL f m ≤ sizeL f l := by
  induction h with
  | slnil => exact Nat.le_refl _
  | cons x h ih => rw [sizeW_cons]; omega
  | cons_cons x h ih => rw [sizeW_cons, sizeW_cons]; omega
theorem putWS_size (l : List TWrite) (w : TWrite) : sizeL TWrite.size (putWS l w) ≤ sizeL TWrite.size l + w.size + 1 := by
  unfold putWS; split
  · have := sizeW_set TWrite.size w l (scanW l w.Key l.length - 1); omega
  · rw [sizeW_ins]; omega
theorem putLS_size : ∀ (ws l : List TWrite), sizeL TWrite.size (putLS l ws) ≤ sizeL TWrite.size l + sizeL TWrite.size ws
  | [], l => by simp [putLS]
  | w :: ws, l => by
    have h1 := putLS_size ws (putWS l w)
    have h2 := putWS_size l w
    show sizeL TWrite.size (putLS (putWS l w) ws) ≤ _
    rw [sizeW_cons]; omega
theorem livesL_size (l : List TWrite) : sizeL TWrite.size (livesL l) ≤ sizeL TWrite.size l := sizeW_sub (List.filter_sublist)
theorem livesL_id {l : List TWrite} (h : ∀ w ∈ l, w.Gone = false) : livesL l = l := by
  unfold livesL; rw [List.filter_eq_self]; intro w hw; simp [h w hw]
end Go.M
