/- Plain law: locks: what waits, what is taken, what is freed. -/
import Derived.Test.YteliahajeokciaaBaseM
import Derived.Test.YteliahajeokciaaMoveM
set_option linter.unusedVariables false
set_option linter.unusedSimpArgs false
namespace Go.M
open Go.AV
def isTxn (n : Int) : Bool := within n 1 60
def isLock (x : TLock) : Bool := goodKey x.Key && isTxn x.Txn
def clash (x y : TLock) : Bool := ((x.Key == y.Key) && (x.Txn != y.Txn)) && (x.Write || y.Write)
def badL (x y : TLock) : Bool := clash x y || ((x.Key == y.Key) && (x.Txn == y.Txn))
def goodFrom (p : List TLock) : List TLock → Bool
  | [] => true
  | x :: r => (isLock x && !(p.any (badL x))) && goodFrom (p ++ [x]) r
def goodLocks (l : List TLock) : Bool := goodFrom [] l && decide ((l.length : Int) ≤ 60)
def waitsR (l : List TLock) (x : TLock) : List Int := ((l.filter (clash x)).map TLock.Txn).mergeSort fun a b => decide (a ≤ b)
def putI : List Int → Int → List Int
  | [], n => [n]
  | x :: l, n => if x < n then x :: putI l n else if x = n then x :: l else n :: x :: l
def waitsS (l : List TLock) (x : TLock) : List Int := (l.filter (clash x)).foldl (fun a y => putI a y.Txn) []
def takeL : List TLock → TLock → List TLock
  | [], x => [x]
  | y :: l, x => if (y.Key == x.Key && y.Txn == x.Txn) = true then ⟨y.Key, y.Txn, y.Write || x.Write⟩ :: l else y :: takeL l x
def freeL (l : List TLock) (t : Int) : List TLock := l.filter fun y => !(y.Txn == t)
def ofL (l : List TLock) (t : Int) : List TLock := l.filter fun y => y.Txn == t
def askL (l : List TLock) (fixed : List Int) (x : TLock) (w : List Int) : Int × List Int :=
  if w.length = 0 then (1, []) else if (w.any fun t => decide (t < x.Txn) || fixed.any fun y => t == y) = true then (2, []) else (3, w)
def takeP (l : List TLock) (x : TLock) (w : List Int) : List TLock × Bool := if (decide (0 < w.length) || decide (60 < (takeL l x).length)) = true then ([], false) else (takeL l x, true)
def freeP (l : List TLock) (t : Int) : List TLock × Bool := if (!goodLocks l || !isTxn t) = true then ([], false) else (freeL l t, true)
def ofP (l : List TLock) (t : Int) : List TLock × Bool := if (!goodLocks l || !isTxn t) = true then ([], false) else (ofL l t, true)
def takeR (l : List TLock) (x : TLock) : List TLock × Bool := if (!goodLocks l || !isLock x) = true then ([], false) else takeP l x (waitsR l x)
def takeS (l : List TLock) (x : TLock) : List TLock × Bool := if (!goodLocks l || !isLock x) = true then ([], false) else takeP l x (waitsS l x)
def waitsP (l : List TLock) (x : TLock) : List Int × Bool := if (!goodLocks l || !isLock x) = true then ([], false) else (waitsR l x, true)
def askBad (l : List TLock) (fixed : List Int) (x : TLock) : Bool := ((!goodLocks l || decide ((20 : Int) < (fixed.length : Int))) || fixed.any fun t => !isTxn t) || !isLock x
def askR (l : List TLock) (fixed : List Int) (x : TLock) : Int × List Int × Bool := if askBad l fixed x = true then (0, [], false) else ((askL l fixed x (waitsR l x)).1, (askL l fixed x (waitsR l x)).2, true)
def askS (l : List TLock) (fixed : List Int) (x : TLock) : Int × List Int × Bool := if askBad l fixed x = true then (0, [], false) else ((askL l fixed x (waitsS l x)).1, (askL l fixed x (waitsS l x)).2, true)

theorem goodFrom_step {l : List TLock} {i : Nat} {x : TLock} (h : l[i]? = some x) : goodFrom (l.take i) (l.drop i) = ((isLock x && !((l.take i).any (badL x))) && goodFrom (l.take (i + 1)) (l.drop (i + 1))) := by
  rw [drop_some h, goodFrom, List.take_add_one, h]; rfl
theorem goodFrom_iff : ∀ {r p : List TLock}, goodFrom p r = true ↔ (∀ x ∈ r, isLock x = true) ∧ (∀ x ∈ r, ∀ y ∈ p, badL x y = false) ∧ r.Pairwise fun y x => badL x y = false
  | [], p => by simp [goodFrom]
  | x :: r, p => by
    have ih := @goodFrom_iff r (p ++ [x])
    unfold goodFrom
    rw [Bool.and_eq_true, ih, Bool.and_eq_true, List.pairwise_cons]
    simp only [Bool.not_eq_true', List.any_eq_false, List.mem_append, List.mem_cons, List.not_mem_nil, or_false]
    constructor
    · rintro ⟨⟨h1, h2⟩, h3, h4, h5⟩
      refine ⟨fun y hy => ?_, fun y hy z hz => ?_, fun y hy => h4 y hy x (.inr rfl), h5⟩
      · rcases hy with rfl | hy
        · exact h1
        · exact h3 y hy
      · rcases hy with rfl | hy
        · simpa using h2 z hz
        · exact h4 y hy z (.inl hz)
    · rintro ⟨h1, h2, h3, h4⟩
      refine ⟨⟨h1 x (.inl rfl), fun y hy => by simpa using h2 x (.inl rfl) y hy⟩, fun y hy => h1 y (.inr hy), fun y hy z hz => ?_, h4⟩
      rcases hz with hz | rfl
      · exact h2 y (.inr hy) z hz
      · exact h3 y hy
theorem goodLocks_iff {l : List TLock} : goodLocks l = true ↔ (∀ x ∈ l, isLock x = true) ∧ (l.Pairwise fun y x => badL x y = false) ∧ l.length ≤ 60 := by
  unfold goodLocks
  rw [Bool.and_eq_true, goodFrom_iff, decide_eq_true_eq]
  simp only [List.not_mem_nil, false_implies, implies_true, true_and]
  constructor
  · rintro ⟨⟨h1, h2⟩, h3⟩; exact ⟨h1, h2, by omega⟩
  · rintro ⟨h1, h2, h3⟩; exact ⟨⟨h1, h2⟩, by omega⟩
theorem good_sub {l r : List TLock} (h : goodLocks l = true) (hs : r.Sublist l) : goodLocks r = true := by
  obtain ⟨h1, h2, h3⟩ := goodLocks_iff.1 h
  exact goodLocks_iff.2 ⟨fun x hx => h1 x (hs.subset hx), h2.sublist hs, Nat.le_trans hs.length_le h3⟩
/-! ### What is waited for -/
theorem putI_mem {l : List Int} {n x : Int} : x ∈ putI l n ↔ x = n ∨ x ∈ l := by
  induction l with
  | nil => simp [putI]
  | cons y l ih =>
    unfold putI
    split
    · simp only [List.mem_cons, ih]; constructor <;> rintro (h | h | h) <;> simp [h]
    · split
      · rename_i h; subst h; simp
      · simp
theorem putI_sorted {l : List Int} {n : Int} (h : l.Pairwise (· < ·)) : (putI l n).Pairwise (· < ·) := by
  induction l with
  | nil => simp [putI]
  | cons y l ih =>
    obtain ⟨h1, h2⟩ := List.pairwise_cons.1 h
    unfold putI
    split
    · rename_i hy
      refine List.pairwise_cons.2 ⟨fun z hz => ?_, ih h2⟩
      rcases putI_mem.1 hz with rfl | hz
      · exact hy
      · exact h1 z hz
    · split
      · exact h
      · rename_i h3 h4
        refine List.pairwise_cons.2 ⟨fun z hz => ?_, h⟩
        rcases List.mem_cons.1 hz with rfl | hz
        · omega
        · have := h1 z hz; omega
theorem foldPut {α : Type} {f : α → Int} : ∀ {l : List α} {a : List Int}, a.Pairwise (· < ·) → (l.foldl (fun a y => putI a (f y)) a).Pairwise (· < ·) ∧ ∀ x, x ∈ l.foldl (fun a y => putI a (f y)) a ↔ x ∈ a ∨ ∃ y ∈ l, f y = x
  | [], a, h => by simpa using h
  | y :: l, a, h => by
    obtain ⟨h1, h2⟩ := foldPut (f := f) (l := l) (putI_sorted (n := f y) h)
    refine ⟨h1, fun x => ?_⟩
    rw [List.foldl_cons, h2, putI_mem]
    simp only [List.mem_cons, exists_eq_or_imp]
    constructor
    · rintro ((h | h) | h)
      · exact .inr (.inl h.symm)
      · exact .inl h
      · exact .inr (.inr h)
    · rintro (h | h | h)
      · exact .inl (.inr h)
      · exact .inl (.inl h.symm)
      · exact .inr h
theorem sorted_ext : ∀ {a b : List Int}, a.Pairwise (· < ·) → b.Pairwise (· < ·) → (∀ x, x ∈ a ↔ x ∈ b) → a = b
  | [], [], _, _, _ => rfl
  | [], y :: b, _, _, h => by have := (h y).2 List.mem_cons_self; simp at this
  | x :: a, [], _, _, h => by have := (h x).1 List.mem_cons_self; simp at this
  | x :: a, y :: b, ha, hb, h => by
    obtain ⟨a1, a2⟩ := List.pairwise_cons.1 ha
    obtain ⟨b1, b2⟩ := List.pairwise_cons.1 hb
    have hxy : x = y := by
      rcases List.mem_cons.1 ((h x).1 List.mem_cons_self) with e | e
      · exact e
      · rcases List.mem_cons.1 ((h y).2 List.mem_cons_self) with e2 | e2
        · exact e2.symm
        · have := a1 y e2; have := b1 x e; omega
    subst hxy
    refine congrArg _ (sorted_ext a2 b2 fun z => ?_)
    have hz := h z
    simp only [List.mem_cons] at hz
    constructor
    · intro hza
      rcases hz.1 (.inr hza) with e | e
      · subst e; have := a1 z hza; omega
      · exact e
    · intro hzb
      rcases hz.2 (.inr hzb) with e | e
      · subst e; have := b1 z hzb; omega
      · exact e
theorem clash_iff {x y : TLock} : clash x y = true ↔ x.Key = y.Key ∧ x.Txn ≠ y.Txn ∧ (x.Write = true ∨ y.Write = true) := by
  unfold clash; simp [and_assoc]
theorem badL_false {x y : TLock} : badL x y = false ↔ (x.Key = y.Key → x.Txn ≠ y.Txn ∧ x.Write = false ∧ y.Write = false) := by
  unfold badL clash
  by_cases hk : x.Key = y.Key <;> by_cases ht : x.Txn = y.Txn <;> cases x.Write <;> cases y.Write <;> simp [hk, ht]
theorem waits_eq {l : List TLock} (h : goodLocks l = true) (x : TLock) : waitsR l x = waitsS l x := by
  obtain ⟨_, h2, _⟩ := goodLocks_iff.1 h
  obtain ⟨k1, k2⟩ := foldPut (f := TLock.Txn) (l := l.filter (clash x)) (a := []) List.Pairwise.nil
  unfold waitsR waitsS
  refine sorted_ext ?_ k1 fun z => ?_
  · have hn : ((l.filter (clash x)).map TLock.Txn).Pairwise (· ≠ ·) := by
      rw [List.pairwise_map]
      refine (h2.filter (clash x)).imp_of_mem fun {a b} ha hb hab => ?_
      have ha' := clash_iff.1 (List.mem_filter.1 ha).2
      have hb' := clash_iff.1 (List.mem_filter.1 hb).2
      exact fun e => (badL_false.1 hab (hb'.1.symm.trans ha'.1)).1 e.symm
    have hs := List.pairwise_mergeSort (le := fun a b : Int => decide (a ≤ b)) (fun a b c h1 h2 => by simp at *; omega) (fun a b => by simp; omega) ((l.filter (clash x)).map TLock.Txn)
    have hp := List.mergeSort_perm ((l.filter (clash x)).map TLock.Txn) fun a b : Int => decide (a ≤ b)
    have hn2 := (hp.pairwise_iff (fun {a b} h => Ne.symm h)).2 hn
    exact (hs.and hn2).imp fun {a b} ⟨p, q⟩ => by simp at p; omega
  · rw [List.mem_mergeSort, k2]; simp
theorem waitsR_mem {l : List TLock} {x : TLock} {t : Int} : t ∈ waitsR l x ↔ ∃ y ∈ l, clash x y = true ∧ y.Txn = t := by
  unfold waitsR
  rw [List.mem_mergeSort]; simp [and_assoc]
theorem waitsR_len (l : List TLock) (x : TLock) : (waitsR l x).length ≤ l.length := by
  unfold waitsR
  rw [List.length_mergeSort, List.length_map]; exact List.length_filter_le _ _
theorem waitsR_nil {l : List TLock} {x : TLock} (h : (waitsR l x).length = 0) : ∀ y ∈ l, clash x y = false := fun y hy => by
  cases hc : clash x y with
  | false => rfl
  | true =>
    have := waitsR_mem.2 ⟨y, hy, hc, rfl⟩
    rw [List.length_eq_zero_iff.1 h] at this; simp at this
/-! ### A lock taken -/
theorem takeL_len (l : List TLock) (x : TLock) : (takeL l x).length ≤ l.length + 1 := by
  induction l with
  | nil => simp [takeL]
  | cons y l ih => unfold takeL; split <;> simp; omega
theorem takeL_mem {l : List TLock} {x z : TLock} (h : z ∈ takeL l x) : z ∈ l ∨ z = x ∨ ∃ y ∈ l, y.Key = x.Key ∧ y.Txn = x.Txn ∧ z = ⟨y.Key, y.Txn, y.Write || x.Write⟩ := by
  induction l with
  | nil => simp [takeL] at h; exact .inr (.inl h)
  | cons y l ih =>
    unfold takeL at h
    split at h
    · rename_i hk
      simp at hk
      rcases List.mem_cons.1 h with e | e
      · exact .inr (.inr ⟨y, List.mem_cons_self, hk.1, hk.2, e⟩)
      · exact .inl (List.mem_cons_of_mem _ e)
    · rcases List.mem_cons.1 h with e | e
      · exact .inl (e ▸ List.mem_cons_self)
      · rcases ih e with h1 | h1 | ⟨w, h1, h2⟩
        · exact .inl (List.mem_cons_of_mem _ h1)
        · exact .inr (.inl h1)
        · exact .inr (.inr ⟨w, List.mem_cons_of_mem _ h1, h2⟩)
theorem takeL_pair {x : TLock} : ∀ {l : List TLock}, (l.Pairwise fun y x => badL x y = false) → (∀ y ∈ l, clash x y = false) → (takeL l x).Pairwise fun y x => badL x y = false
  | [], _, _ => by simp [takeL]
  | y :: l, hp, hc => by
    obtain ⟨h1, h2⟩ := List.pairwise_cons.1 hp
    unfold takeL
    split
    · rename_i hk
      simp at hk
      refine List.pairwise_cons.2 ⟨fun z hz => ?_, h2⟩
      refine badL_false.2 fun hzk => ?_
      have h3 := badL_false.1 (h1 z hz) hzk
      have h4 := hc z (List.mem_cons_of_mem _ hz)
      have h5 : x.Write = false ∧ z.Write = false := by
        have h6 : ¬ (x.Key = z.Key ∧ x.Txn ≠ z.Txn ∧ (x.Write = true ∨ z.Write = true)) := fun e => by rw [clash_iff.2 e] at h4; cases h4
        simp only [not_and, not_or, Bool.not_eq_true] at h6
        exact h6 (hk.1.symm.trans hzk.symm) (fun e => h3.1 (by rw [← e, hk.2]))
      exact ⟨h3.1, h3.2.1, by simp [h3.2.2, h5.1]⟩
    · rename_i hk
      refine List.pairwise_cons.2 ⟨fun z hz => ?_, takeL_pair h2 fun w hw => hc w (List.mem_cons_of_mem _ hw)⟩
      have hxy : badL x y = false := by
        have h4 := hc y List.mem_cons_self
        unfold badL
        rw [h4, Bool.false_or]
        cases h5 : (x.Key == y.Key && x.Txn == y.Txn) with
        | false => rfl
        | true => simp at h5; exact absurd (by simp [h5]) hk
      rcases takeL_mem hz with h3 | h3 | ⟨w, h3, h4, h5, h6⟩
      · exact h1 z h3
      · rw [h3]; exact hxy
      · subst h6
        refine badL_false.2 fun e => ?_
        have h7 := badL_false.1 (h1 w h3) e
        have h8 := badL_false.1 hxy (h4.symm.trans e)
        exact ⟨h7.1, by simp [h7.2.1, h8.2.1], h7.2.2⟩
theorem take_good {l : List TLock} {x : TLock} (h : goodLocks l = true) (hx : isLock x = true) (hw : (waitsR l x).length = 0) (hl : (takeL l x).length ≤ 60) : goodLocks (takeL l x) = true := by
  obtain ⟨h1, h2, _⟩ := goodLocks_iff.1 h
  refine goodLocks_iff.2 ⟨fun z hz => ?_, takeL_pair h2 (waitsR_nil hw), hl⟩
  rcases takeL_mem hz with h3 | h3 | ⟨w, h3, h4, h5, h6⟩
  · exact h1 z h3
  · rw [h3]; exact hx
  · subst h6; exact h1 w h3
/-! ### Locks freed -/
def freeAll (l : List TLock) (ts : List Int) : List TLock := ts.foldl freeL l
theorem freeAll_mem {ts : List Int} : ∀ {l : List TLock} {y : TLock}, y ∈ freeAll l ts ↔ y ∈ l ∧ y.Txn ∉ ts := by
  induction ts with
  | nil => simp [freeAll]
  | cons t ts ih =>
    intro l y
    show y ∈ freeAll (freeL l t) ts ↔ _
    rw [ih]
    unfold freeL
    simp [and_assoc]
theorem freeAll_sub {ts : List Int} : ∀ {l : List TLock}, (freeAll l ts).Sublist l := by
  induction ts with
  | nil => exact fun {l} => List.Sublist.refl l
  | cons t ts ih => exact fun {l} => (ih (l := freeL l t)).trans List.filter_sublist
theorem freeAll_snoc {l : List TLock} {ts : List Int} {t : Int} : freeAll l (ts ++ [t]) = freeL (freeAll l ts) t := by
  unfold freeAll; rw [List.foldl_append]; rfl
theorem freeAll_waits (l : List TLock) (x : TLock) : (waitsR (freeAll l (waitsR l x)) x).length = 0 := by
  rw [List.length_eq_zero_iff]
  refine List.eq_nil_iff_forall_not_mem.2 fun t ht => ?_
  obtain ⟨y, hy, hc, rfl⟩ := waitsR_mem.1 ht
  obtain ⟨h1, h2⟩ := freeAll_mem.1 hy
  exact h2 (waitsR_mem.2 ⟨y, h1, hc, rfl⟩)
theorem parts_len (l : List TLock) (t : Int) : (freeL l t).length + (ofL l t).length = l.length := by
  unfold freeL ofL
  induction l with
  | nil => rfl
  | cons y l ih => rw [List.filter_cons, List.filter_cons]; cases h : (y.Txn == t) <;> simp only [Bool.not_true, Bool.not_false, Bool.false_eq_true, if_true, if_false, List.length_cons] <;> omega
theorem take_eq {l : List TLock} {x : TLock} : takeR l x = takeS l x := by
  unfold takeR takeS
  split
  · rfl
  · rename_i h
    simp only [Bool.or_eq_true, Bool.not_eq_true', not_or, Bool.not_eq_false] at h
    rw [waits_eq h.1]
theorem ask_eq {l : List TLock} {fixed : List Int} {x : TLock} : askR l fixed x = askS l fixed x := by
  unfold askR askS
  split
  · rfl
  · rename_i h
    unfold askBad at h
    simp only [Bool.or_eq_true, Bool.not_eq_true', not_or, Bool.not_eq_false] at h
    rw [waits_eq h.1.1.1]
end Go.M
