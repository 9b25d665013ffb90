/- Texts of the claim, part 2. -/
import Derived.Sort.Walk0
import Derived.Test.YtkegepoihkhihaaGreatRows
import Derived.Laws.BytesArg
import Derived.Test.YtkegepoihkhihaaGreatZSureTo1

set_option linter.defProp false
def H6 := @Go.Proofs.Tryz.underlying9
def E6 := @Go.Proofs.Tryz.underlying102
def F7 := @Go.Proofs.Tryz.sizeOf101
def L5 := @Go.Proofs.Tryz.isAgg101
def F0 := @Go.Proofs.Tryz.underlying40
def E3 := @Go.Proofs.Tryz.sizeOf141
def I5 := @Go.Proofs.Tryz.isAgg141
def J0 := @Go.Proofs.Tryz.underlying26
def I1 := @Go.Proofs.Tryz.sizeOf43
def L0 := @Go.Proofs.Tryz.isAgg43
def F1 := @Go.Proofs.Tryz.underlying39
def E8 := @Go.Proofs.Tryz.sizeOf125
def L2 := @Go.Proofs.Tryz.isAgg125
def C7 := @Go.Proofs.Tryz.underlying99
def D2 := @Go.Proofs.Tryz.sizeOf9
def E5 := @Go.Proofs.Tryz.isAgg9
def F5 := @Go.Proofs.Tryz.underlying101
def G7 := @Go.Proofs.Tryz.sizeOf4
def H9 := @Go.Proofs.Tryz.isAgg4
def F6 := @Go.Proofs.Tryz.underlying125
def K2 := @Go.Proofs.Tryz.sizeOf123
def L6 := @Go.Proofs.Tryz.isAgg123
def H2 := @Go.Proofs.Tryz.underlying123
def I7 := @Go.Proofs.Tryz.sizeOf127
def S9 := @Go.Proofs.Tryz.isAgg127
def H3 := @Go.Proofs.Tryz.underlying127
def C2 := @Go.Proofs.Tryz.sizeOf3
def D0 := @Go.Proofs.Tryz.isAgg3
def P0 := @Go.Proofs.Tryz.underlying219
def O8 := @Go.Proofs.Tryz.underlying4
def N3 := @Go.Proofs.Tryz.underlying136
def N4 := @Go.Proofs.Tryz.underlying132
def M4 := @Go.Proofs.Tryz.underlying138
def J2 := @Go.Proofs.Tryz.sizeOf99
def K3 := @Go.Proofs.Tryz.isAgg99
def D5 := @Go.Proofs.Tryz.underlying141
def H7 := @Go.Proofs.Tryz.sizeOf102
def I4 := @Go.Proofs.Tryz.isAgg102
def G5 := @Go.Proofs.Tryz.underlying144
def T0 := @Go.Proofs.Tryz.isAgg144
def J6 := @Go.Proofs.Tryz.sizeOf144
def O0 := @Go.Proofs.Tryz.underlying30
def O1 := @Go.Proofs.Tryz.underlying31
def J1 := @Go.Proofs.Tryz.underlying41
def M8 := @Go.Proofs.Tryz.underlying34
def D6 := @Go.Proofs.Tryz.underlying43
def J9 := @Go.Proofs.Tryz.sizeOf39
def K6 := @Go.Proofs.Tryz.sizeOf40
def N7 := @Go.Proofs.Tryz.sizeOf41
def L3 := @Go.Proofs.Tryz.isAgg39
def L7 := @Go.Proofs.Tryz.isAgg40
def Q7 := @Go.Proofs.Tryz.isAgg41
def M9 := @Go.Proofs.Tryz.underlying22
def C8 := @Go.Proofs.Tryz.underlying104
set_option linter.unusedVariables false
set_option linter.unusedSimpArgs false
namespace Go.M
theorem M2 : ∀ {a b c : Str}, Op.bytesLess a b = true → Op.bytesLess b c = true → Op.bytesLess a c = true
  | [], b, c, h1, h2 => by
    cases c with
    | nil => cases b <;> simp [Op.bytesLess] at h2
    | cons z c => rfl
  | x :: a, [], _, h1, _ => by simp [Op.bytesLess] at h1
  | x :: a, y :: b, [], _, h2 => by simp [Op.bytesLess] at h2
  | x :: a, y :: b, z :: c, h1, h2 => by
    simp only [Op.bytesLess, Bool.or_eq_true, Bool.and_eq_true, decide_eq_true_eq, beq_iff_eq] at h1 h2 ⊢
    rcases h1 with h1 | ⟨h1, h1'⟩
    · rcases h2 with h2 | ⟨h2, _⟩
      · exact .inl (UInt8.lt_trans h1 h2)
      · subst h2; exact .inl h1
    · subst h1
      rcases h2 with h2 | ⟨h2, h2'⟩
      · exact .inl h2
      · exact .inr ⟨h2, M2 h1' h2'⟩
theorem V6 (a b : Str) : cmpStr a b < 0 ↔ Op.bytesLess a b = true := by
  unfold cmpStr
  cases h1 : Op.bytesLess a b
  · cases h2 : Op.bytesLess b a <;> simp
  · simp
theorem e9 (a b : Str) : cmpStr a b = 0 ↔ a = b := by
  unfold cmpStr
  have h3 := N9 a b
  cases h1 : Op.bytesLess a b
  · cases h2 : Op.bytesLess b a
    · rw [h1, h2] at h3; simp at h3; simp [h3]
    · simp; intro h; subst h; rw [h1] at h2; cases h2
  · simp; intro h; subst h; rw [J5] at h1; cases h1
theorem AO2 {α : Type} {p : α → α → Bool} (tr : ∀ a b c, p a b = true → p b c = true → p a c = true) : ∀ {l : List α} {x : α}, adj p (x :: l) = true → ∀ y ∈ l, p x y = true
  | [], _, _, y, hy => by simp at hy
  | z :: l, x, h, y, hy => by
    simp only [adj, Bool.and_eq_true] at h
    rcases List.mem_cons.1 hy with rfl | hy
    · exact h.1
    · exact tr _ _ _ h.1 (AO2 tr h.2 y hy)
theorem adj_tail {α : Type} {p : α → α → Bool} {l : List α} {x : α} (h : adj p (x :: l) = true) : adj p l = true := by
  cases l with
  | nil => rfl
  | cons y l => simp only [adj, Bool.and_eq_true] at h; exact h.2
theorem Y1 {α : Type} {p : α → α → Bool} (tr : ∀ a b c, p a b = true → p b c = true → p a c = true) : ∀ {l : List α}, adj p l = true → ∀ {i j : Nat} {x y : α}, i < j → l[i]? = some x → l[j]? = some y → p x y = true
  | [], _, i, j, x, y, _, hx, _ => by simp at hx
  | z :: l, h, 0, j + 1, x, y, _, hx, hy => by
    simp at hx; subst hx
    exact AO2 tr h y (H0 (by simpa using hy))
  | z :: l, h, i + 1, j + 1, x, y, hij, hx, hy => Y1 tr (adj_tail h) (by omega : i < j) (by simpa using hx) (by simpa using hy)
theorem y7 {α : Type} (f : α → Int) (l : List α) (down : ∀ (i j : Nat) (x y : α), i < j → l[i]? = some x → l[j]? = some y → f y < 0 → f x < 0) : ∀ (d i j : Nat), j - i = d → i ≤ j → j ≤ l.length →
    (∀ k x, k < i → l[k]? = some x → f x < 0) → (∀ x, l[j]? = some x → ¬ f x < 0) → (∀ k x, k < bs f l i j → l[k]? = some x → f x < 0) ∧ (∀ x, l[bs f l i j]? = some x → ¬ f x < 0) := by
  intro d
  induction d using Nat.strongRecOn with
  | _ d ih =>
    intro i j hd hij hjl hlo hhi
    by_cases h : i < j
    · obtain ⟨x, hx⟩ := Go.AV.get_some (show (i + j) / 2 < l.length by omega)
      by_cases hf : f x < 0
      · rw [AF2 h hx hf]
        refine ih (j - ((i + j) / 2 + 1)) (by omega) _ _ rfl (by omega) hjl (fun k y hk hy => ?_) hhi
        rcases Nat.lt_or_ge k ((i + j) / 2) with h1 | h1
        · exact down k _ y x h1 hy hx hf
        · have : k = (i + j) / 2 := by omega
          subst this
          rw [hx] at hy; injection hy with hy; subst hy; exact hf
      · rw [AF3 h hx hf]
        exact ih ((i + j) / 2 - i) (by omega) _ _ rfl (by omega) (by omega) hlo (fun y hy => by rw [hx] at hy; injection hy with hy; subst hy; exact hf)
    · rw [t2 h]
      have : i = j := by omega
      subst this
      exact ⟨hlo, hhi⟩
def wCmp (k : Str) (w : TWrite) : Int := cmpStr w.Key k
def wPos (l : List TWrite) (k : Str) : Nat := bs (wCmp k) l 0 l.length
def wHas (l : List TWrite) (k : Str) : Bool := bsAt (wCmp k) l (wPos l k)
theorem o6 (a b c : TWrite) (h : wLess a b = true) (k : wLess b c = true) : wLess a c = true := M2 h k
theorem AT2 {l : List TWrite} (h : adj wLess l = true) (k : Str) : (∀ i x, i < wPos l k → l[i]? = some x → Op.bytesLess x.Key k = true) ∧ (∀ x, l[wPos l k]? = some x → Op.bytesLess x.Key k = false) := by
  have := y7 (wCmp k) l (fun i j x y hij hx hy hf => by
    unfold wCmp at *
    rw [V6] at *
    exact M2 (Y1 o6 h hij hx hy) hf) l.length 0 l.length rfl (Nat.zero_le _) (Nat.le_refl _) (fun k x hk => by omega) (fun x hx => by rw [List.getElem?_eq_none (Nat.le_refl _)] at hx; cases hx)
  refine ⟨fun i x hi hx => (V6 _ _).1 (this.1 i x hi hx), fun x hx => ?_⟩
  have h2 := this.2 x hx
  unfold wCmp at h2
  rw [V6] at h2
  simpa using h2
def findW (l : List TWrite) (k : Str) : Option TWrite := l.find? fun w => w.Key == k
theorem findW_eq {l : List TWrite} (h : adj wLess l = true) (k : Str) : findW l k = if wHas l k = true then l[wPos l k]? else none := by
  obtain ⟨h1, h2⟩ := AT2 h k
  have hat : ∀ w ∈ l, w.Key = k → l[wPos l k]? = some w := fun w hw he => by
    obtain ⟨i, hi⟩ := List.getElem?_of_mem hw
    rcases Nat.lt_trichotomy i (wPos l k) with hlt | heq | hgt
    · have := h1 i w hlt hi
      rw [he, J5] at this; cases this
    · rw [← heq]; exact hi
    · obtain ⟨y, hy⟩ := Go.AV.get_some (show wPos l k < l.length by have := (List.getElem?_eq_some_iff.1 hi).1; omega)
      have h3 := h2 y hy
      have h4 := Y1 o6 h hgt hy hi
      unfold wLess at h4
      rw [he, h3] at h4; cases h4
  unfold wHas bsAt findW
  cases hp : l[wPos l k]? with
  | none =>
    simp only [Bool.false_eq_true, if_false]
    rw [List.find?_eq_none]
    intro w hw
    simp only [beq_iff_eq]
    intro he
    have := hat w hw he
    rw [hp] at this; cases this
  | some y =>
    simp only [wCmp, beq_iff_eq, e9]
    by_cases hk : y.Key = k
    · rw [if_pos hk]
      cases hf : l.find? fun w => w.Key == k with
      | none =>
        have := List.find?_eq_none.1 hf y (H0 hp)
        simp [hk] at this
      | some w =>
        have h5 := List.find?_some hf
        have h6 := hat w (List.mem_of_find?_eq_some hf) (by simpa using h5)
        rw [hp] at h6; exact h6.symm
    · rw [if_neg hk, List.find?_eq_none]
      intro w hw
      simp only [beq_iff_eq]
      intro he
      have := hat w hw he
      rw [hp] at this; injection this with this; subst this; exact hk he
end Go.M

namespace Go.M
end Go.M

namespace Go.M
theorem wHas_iff {l : List TWrite} {k : Str} : wHas l k = true ↔ ∃ x, l[wPos l k]? = some x ∧ x.Key = k := by
  unfold wHas bsAt
  cases h : l[wPos l k]? with
  | none => simp
  | some x => simp [wCmp, e9]
theorem AO3 (a b : Str) : (!(Op.bytesLess a b || a == b)) = Op.bytesLess b a := by
  have h := N9 a b
  cases h1 : Op.bytesLess a b
  · cases h2 : Op.bytesLess b a
    · rw [h1, h2] at h; simp at h; simp [h]
    · simp; intro hc; subst hc; rw [J5] at h2; cases h2
  · simp; cases h2 : Op.bytesLess b a with
    | false => rfl
    | true => have := M2 h1 h2; rw [J5] at this; cases this
end Go.M

namespace Go.M
def leastI (a b : Int) : Int := if a < b then a else b
end Go.M

namespace Go.M
end Go.M

namespace Go.M
end Go.M

namespace Go.M
theorem m3 (a b : Str) : Op.bytesLess a b = true ∨ a = b ∨ Op.bytesLess b a = true := by
  have h := N9 a b
  cases h1 : Op.bytesLess a b
  · cases h2 : Op.bytesLess b a
    · rw [h1, h2] at h; simp at h; exact .inr (.inl h.symm)
    · exact .inr (.inr rfl)
  · exact .inl rfl
end Go.M

namespace Go.M
open Go.AV
def SrtS (l : List Str) : Prop := l.Pairwise fun a b => Op.bytesLess a b = true
theorem AG0 : ∀ {a b : List Str}, SrtS a → SrtS b → (∀ x, x ∈ a ↔ x ∈ b) → a = b
  | [], [], _, _, _ => rfl
  | [], y :: b, _, _, h => by have := (h y).2 List.mem_cons_self; cases this
  | x :: a, [], _, _, h => by have := (h x).1 List.mem_cons_self; cases this
  | x :: a, y :: b, ha, hb, h => by
    obtain ⟨a1, a2⟩ := List.pairwise_cons.1 ha
    obtain ⟨b1, b2⟩ := List.pairwise_cons.1 hb
    have asym : ∀ {u v : Str}, Op.bytesLess u v = true → Op.bytesLess v u = true → False := fun h k => by
      have := M2 h k; rw [J5] at this; cases this
    have e : x = y := by
      rcases List.mem_cons.1 ((h x).1 List.mem_cons_self) with e | e
      · exact e
      · rcases List.mem_cons.1 ((h y).2 List.mem_cons_self) with f | f
        · exact f.symm
        · exact (asym (b1 x e) (a1 y f)).elim
    subst e
    rw [AG0 a2 b2 fun z => ?_]
    constructor
    · intro hz
      rcases List.mem_cons.1 ((h z).1 (List.mem_cons_of_mem _ hz)) with e | e
      · subst e; have := a1 z hz; rw [J5] at this; cases this
      · exact e
    · intro hz
      rcases List.mem_cons.1 ((h z).2 (List.mem_cons_of_mem _ hz)) with e | e
      · subst e; have := b1 z hz; rw [J5] at this; cases this
      · exact e
def sortS (l : List Str) : List Str := l.mergeSort fun x y => decide (x ≤ y)
theorem le_less (x y : Str) : decide (x ≤ y) = !Op.bytesLess y x := by
  rw [Go.Proofs.bytesLess_eq]
  by_cases h : y < x
  · simp [h, List.not_le.2 h]
  · simp [h, List.not_lt.1 h]
theorem AT3 (l : List Str) (z : Str) : z ∈ sortS l ↔ z ∈ l := (List.mergeSort_perm l _).mem_iff
theorem AB9 (l : List Str) : (sortS l).length = l.length := List.length_mergeSort l
theorem AQ2 (l : List Str) : (sortS l).Pairwise fun a b => Op.bytesLess b a = false := by
  have h := List.pairwise_mergeSort (le := fun x y : Str => decide (x ≤ y)) (fun a b c h1 h2 => by
    simp only [decide_eq_true_eq] at *; exact List.le_trans h1 h2) (fun a b => by
    simp only [Bool.or_eq_true, decide_eq_true_eq]; exact List.le_total a b) l
  refine h.imp fun {a b} hab => ?_
  rw [le_less] at hab
  simpa using hab
theorem d9 {l : List Str} {z : Str} : ∀ {n : Nat}, z ∈ cmpN l n ↔ ∃ i, i < n ∧ l[i]? = some z
  | 0 => by constructor
            · intro h; cases h
            · rintro ⟨i, h, _⟩; omega
  | n + 1 => by
    show z ∈ (if n ≠ 0 ∧ l[n]? = l[n - 1]? then cmpN l n else cmpN l n ++ (l[n]?).toList) ↔ _
    split
    · rename_i h
      rw [d9]
      constructor
      · exact fun ⟨i, h1, h2⟩ => ⟨i, by omega, h2⟩
      · intro ⟨i, h1, h2⟩
        by_cases e : i = n
        · subst e; exact ⟨i - 1, by omega, h.2 ▸ h2⟩
        · exact ⟨i, by omega, h2⟩
    · rw [List.mem_append, d9, Option.mem_toList]
      constructor
      · rintro (⟨i, h1, h2⟩ | h)
        · exact ⟨i, by omega, h2⟩
        · exact ⟨n, by omega, h⟩
      · intro ⟨i, h1, h2⟩
        by_cases e : i = n
        · subst e; exact .inr h2
        · exact .inl ⟨i, by omega, h2⟩
theorem AT4 (l : List Str) (z : Str) : z ∈ cmpL l ↔ z ∈ l := by
  unfold cmpL
  rw [d9]
  constructor
  · exact fun ⟨i, _, h⟩ => H0 h
  · intro h
    obtain ⟨i, hi⟩ := List.getElem?_of_mem h
    exact ⟨i, (List.getElem?_eq_some_iff.1 hi).1, hi⟩
theorem r5 {l : List Str} (hs : l.Pairwise fun a b => Op.bytesLess b a = false) {i j : Nat} {x y : Str} (hij : i < j) (hx : l[i]? = some x) (hy : l[j]? = some y) : Op.bytesLess y x = false := by
  obtain ⟨h1, e1⟩ := List.getElem?_eq_some_iff.1 hx
  obtain ⟨h2, e2⟩ := List.getElem?_eq_some_iff.1 hy
  have := List.pairwise_iff_getElem.1 hs i j h1 h2 hij
  rw [e1, e2] at this; exact this
theorem AC0 {l : List Str} (hs : l.Pairwise fun a b => Op.bytesLess b a = false) : ∀ {n : Nat}, n ≤ l.length → SrtS (cmpN l n)
  | 0, _ => List.Pairwise.nil
  | n + 1, hn => by
    have ih := AC0 hs (n := n) (by omega)
    show SrtS (if n ≠ 0 ∧ l[n]? = l[n - 1]? then cmpN l n else cmpN l n ++ (l[n]?).toList)
    split
    · exact ih
    · rename_i h
      obtain ⟨x, hx⟩ := get_some (show n < l.length by omega)
      rw [hx]
      refine List.pairwise_append.2 ⟨ih, List.pairwise_singleton _ _, fun z hz w hw => ?_⟩
      simp at hw; subst hw
      obtain ⟨i, hi, hzi⟩ := d9.1 hz
      have h1 := r5 hs hi hzi hx
      rcases m3 z w with e | e | e
      · exact e
      · exfalso
        subst e
        apply h
        refine ⟨by omega, ?_⟩
        by_cases f : i = n - 1
        · rw [hx, ← f, hzi]
        · obtain ⟨v, hv⟩ := get_some (show n - 1 < l.length by omega)
          have h3 := r5 hs (show n - 1 < n by omega) hv hx
          have h4 := r5 hs (show i < n - 1 by omega) hzi hv
          rw [hx, hv]
          rcases m3 z v with g | g | g
          · rw [g] at h3; cases h3
          · rw [g]
          · rw [g] at h4; cases h4
      · rw [h1] at e; cases e
def keysI (l : List Str) : List Str := cmpL (sortS l)
theorem AT5 (l : List Str) : SrtS (keysI l) := AC0 (AQ2 l) (Nat.le_refl _)
theorem AT6 (l : List Str) (z : Str) : z ∈ keysI l ↔ z ∈ l := by unfold keysI; rw [AT4, AT3]
def putS : List Str → Str → List Str
  | [], s => [s]
  | y :: l, s => if Op.bytesLess s y = true then s :: y :: l else if y = s then y :: l else y :: putS l s
theorem AG1 {s : Str} : ∀ {l : List Str}, SrtS l → SrtS (putS l s) ∧ ∀ z, z ∈ putS l s ↔ z ∈ l ∨ z = s
  | [], _ => ⟨by unfold SrtS putS; simp, fun z => by simp [putS]⟩
  | y :: l, h => by
    obtain ⟨h1, h2⟩ := List.pairwise_cons.1 h
    unfold putS
    split
    · rename_i hs
      refine ⟨List.pairwise_cons.2 ⟨fun z hz => ?_, h⟩, fun z => ?_⟩
      · rcases List.mem_cons.1 hz with rfl | hz
        · exact hs
        · exact M2 hs (h1 z hz)
      · rw [List.mem_cons, or_comm]
    · rename_i hs
      split
      · rename_i e
        subst e
        refine ⟨h, fun z => ⟨.inl, ?_⟩⟩
        rintro (hz | rfl)
        · exact hz
        · exact List.mem_cons_self
      · rename_i e
        obtain ⟨i1, i2⟩ := AG1 (s := s) h2
        have hys : Op.bytesLess y s = true := by
          rcases m3 y s with g | g | g
          · exact g
          · exact absurd g e
          · exact absurd g hs
        refine ⟨List.pairwise_cons.2 ⟨fun z hz => ?_, i1⟩, fun z => ?_⟩
        · rcases (i2 z).1 hz with hz | rfl
          · exact h1 z hz
          · exact hys
        · rw [List.mem_cons, i2, List.mem_cons, or_assoc]
theorem AG2 (s : Str) : ∀ l : List Str, (putS l s).length ≤ l.length + 1
  | [] => Nat.le_refl _
  | y :: l => by
    have := AG2 s l
    unfold putS
    split
    · exact Nat.le_refl _
    · split
      · exact Nat.le_succ _
      · rw [T2, T2]; omega
def putAllS (l : List Str) (o : List Str) : List Str := l.foldl putS o
theorem Y5 : ∀ {l o : List Str}, SrtS o → SrtS (putAllS l o) ∧ ∀ z, z ∈ putAllS l o ↔ z ∈ o ∨ z ∈ l
  | [], o, h => ⟨h, fun z => by simp [putAllS]⟩
  | s :: l, o, h => by
    obtain ⟨h1, h2⟩ := AG1 (s := s) h
    obtain ⟨i1, i2⟩ := Y5 (l := l) h1
    refine ⟨i1, fun z => ?_⟩
    show z ∈ putAllS l (putS o s) ↔ _
    rw [i2, h2, List.mem_cons, or_assoc]
theorem AT7 (l : List Str) : keysI l = putAllS l [] := by
  obtain ⟨h1, h2⟩ := Y5 (l := l) (o := []) List.Pairwise.nil
  exact AG0 (AT5 l) h1 fun z => by rw [AT6, h2]; simp
theorem AC1 {s : Str} : ∀ {l : List Str} {k : Nat}, SrtS l → k ≤ l.length → (∀ i y, k ≤ i → l[i]? = some y → Op.bytesLess s y = true) → (∀ y, 0 < k → l[k - 1]? = some y → Op.bytesLess s y = false ∧ y ≠ s) → putS l s = l.take k ++ s :: l.drop k
  | [], k, _, hk, _, _ => by have : k = 0 := by simpa using hk
                             subst this; rfl
  | y :: l, 0, _, _, h, _ => by
    unfold putS
    rw [if_pos (h 0 y (Nat.le_refl _) rfl)]; rfl
  | y :: l, k + 1, hs, hk, h, g => by
    obtain ⟨h1, h2⟩ := List.pairwise_cons.1 hs
    have hy : Op.bytesLess s y = false ∧ y ≠ s := by
      cases k with
      | zero => exact g y (by omega) rfl
      | succ k =>
        obtain ⟨z, hz⟩ := get_some (show k < l.length by simp at hk; omega)
        have hgz := g z (by omega) (by simpa using hz)
        have hyz := h1 z (H0 hz)
        refine ⟨?_, fun e => ?_⟩
        · cases e : Op.bytesLess s y with
          | false => rfl
          | true => have := M2 e hyz; rw [hgz.1] at this; cases this
        · subst e; rw [hyz] at hgz; cases hgz.1
    unfold putS
    rw [if_neg (by rw [hy.1]; decide), if_neg hy.2, AC1 h2 (by simpa using hk) (fun i z hi hz => h (i + 1) z (by omega) (by simpa using hz)) (fun z hz hz2 => g z (by omega) (by
      cases k with
      | zero => omega
      | succ k => simpa using hz2))]
    rfl
theorem t7 {s : Str} : ∀ {l : List Str} {k : Nat}, SrtS l → l[k]? = some s → putS l s = l
  | y :: l, 0, hs, h => by
    simp at h; subst h
    unfold putS
    rw [if_neg (by rw [J5]; decide), if_pos rfl]
  | y :: l, k + 1, hs, h => by
    obtain ⟨h1, h2⟩ := List.pairwise_cons.1 hs
    have h3 : l[k]? = some s := by simpa using h
    have hy := h1 s (H0 h3)
    unfold putS
    rw [if_neg (fun e => by have := M2 e hy; rw [J5] at this; cases this), if_neg (fun e => by rw [e, J5] at hy; cases hy), t7 h2 h3]
  | [], k, hs, h => by simp at h
theorem m4 (l o : List Str) (s : Str) : putAllS (l ++ [s]) o = putS (putAllS l o) s := by
  unfold putAllS; rw [List.foldl_append]; rfl
theorem f0 : ∀ (l o : List Str), (putAllS l o).length ≤ o.length + l.length
  | [], o => Nat.le_refl _
  | s :: l, o => by
    have h1 := f0 l (putS o s)
    have h2 := AG2 s o
    show (putAllS l (putS o s)).length ≤ _
    rw [T2]; omega
end Go.M

namespace Go.M
open Go.AV
def isTrue (t : Int) : Bool := within t 0 100000
def verGood (v : TVer) : Bool := isTime v.Time && isStored v.Val v.Gone
def verLess (a b : TVer) : Bool := decide (a.Time < b.Time)
def isCell (c : TCell) : Bool := (c.Vers.all verGood && adj verLess c.Vers) && within c.Vers.length 1 16
def cKeys (l : List TCell) : List Str := l.map TCell.Key
def goodCells (l : List TCell) : Bool := l.all isCell && (decide ((l.length : Int) ≤ 24) && areRising (cKeys l))
def verGoodS (k : Str) (v : TVer) : Bool := within v.Time 1 100000 && l3Write k v.Val v.Gone
def l3Cell (c : TCell) : Bool := (c.Vers.all (verGoodS c.Key) && adj verLess c.Vers) && (l3Key c.Key && within c.Vers.length 1 16)
def cLess (a b : TCell) : Bool := Op.bytesLess a.Key b.Key
def l3Good (l : List TCell) : Bool := (l.all l3Cell && adj cLess l) && decide ((l.length : Int) ≤ 24)
theorem y8 (c : TCell) : (isCell c && goodKey c.Key) = l3Cell c := by
  unfold isCell l3Cell
  rw [a8, Bool.eq_iff_iff]
  simp only [Bool.and_eq_true, List.all_eq_true]
  have key : ∀ v : TVer, l3Key c.Key = true → (verGood v = true ↔ verGoodS c.Key v = true) := fun v hk => by
    unfold verGood verGoodS isTime l3Write
    rw [o5, hk, Bool.true_and]
  constructor
  · rintro ⟨⟨⟨h1, h2⟩, h3⟩, h4⟩
    exact ⟨⟨fun v hv => (key v h4).1 (h1 v hv), h2⟩, h4, h3⟩
  · rintro ⟨⟨h1, h2⟩, h4, h3⟩
    exact ⟨⟨⟨fun v hv => (key v h4).2 (h1 v hv), h2⟩, h3⟩, h4⟩
theorem Q1 (l : List TCell) : goodCells l = l3Good l := by
  unfold goodCells l3Good areRising cKeys
  rw [o0, Bool.eq_iff_iff]
  simp only [Bool.and_eq_true, List.all_eq_true, List.mem_map, forall_exists_index, and_imp, forall_apply_eq_imp_iff₂]
  constructor
  · rintro ⟨h1, h2, h3, h4⟩
    exact ⟨⟨fun c hc => by rw [← y8, h1 c hc, h3 c hc]; rfl, h4⟩, h2⟩
  · rintro ⟨⟨h1, h4⟩, h2⟩
    have h5 : ∀ c ∈ l, isCell c = true ∧ goodKey c.Key = true := fun c hc => by
      have := h1 c hc
      rw [← y8] at this
      simpa using this
    exact ⟨fun c hc => (h5 c hc).1, h2, fun c hc => (h5 c hc).2, h4⟩
theorem U7 {l : List TCell} (h : goodCells l = true) : l.length ≤ 24 ∧ adj cLess l = true ∧ ∀ c ∈ l, goodKey c.Key = true ∧ 1 ≤ c.Vers.length ∧ c.Vers.length ≤ 16 ∧ adj verLess c.Vers = true ∧ ∀ v ∈ c.Vers, verGood v = true := by
  have h0 := h
  rw [Q1] at h
  unfold l3Good at h
  simp only [Bool.and_eq_true, List.all_eq_true, decide_eq_true_eq] at h
  refine ⟨by omega, h.1.2, fun c hc => ?_⟩
  have hcell := h.1.1 c hc
  rw [← y8] at hcell
  simp only [Bool.and_eq_true] at hcell
  obtain ⟨h1, h2⟩ := hcell
  unfold isCell at h1
  simp only [Bool.and_eq_true, List.all_eq_true] at h1
  have h3 := h1.2
  unfold within at h3
  simp at h3
  exact ⟨h2, by omega, by omega, h1.1.2, h1.1.1⟩
def cCmp (k : Str) (c : TCell) : Int := cmpStr c.Key k
def cPos (l : List TCell) (k : Str) : Nat := bs (cCmp k) l 0 l.length
def cHas (l : List TCell) (k : Str) : Bool := bsAt (cCmp k) l (cPos l k)
theorem Y6 (a b c : TCell) (h : cLess a b = true) (k : cLess b c = true) : cLess a c = true := M2 h k
theorem AT8 {l : List TCell} (h : adj cLess l = true) (k : Str) : (∀ i x, i < cPos l k → l[i]? = some x → Op.bytesLess x.Key k = true) ∧ (∀ x, l[cPos l k]? = some x → Op.bytesLess x.Key k = false) := by
  have := y7 (cCmp k) l (fun i j x y hij hx hy hf => by
    unfold cCmp at *
    rw [V6] at *
    exact M2 (Y1 Y6 h hij hx hy) hf) l.length 0 l.length rfl (Nat.zero_le _) (Nat.le_refl _) (fun k x hk => by omega) (fun x hx => by rw [List.getElem?_eq_none (Nat.le_refl _)] at hx; cases hx)
  refine ⟨fun i x hi hx => (V6 _ _).1 (this.1 i x hi hx), fun x hx => ?_⟩
  have h2 := this.2 x hx
  unfold cCmp at h2
  rw [V6] at h2
  simpa using h2
theorem i7 {l : List TCell} {k : Str} : cHas l k = true ↔ ∃ x, l[cPos l k]? = some x ∧ x.Key = k := by
  unfold cHas bsAt
  cases h : l[cPos l k]? with
  | none => simp
  | some x => simp [cCmp, e9]
def findC (l : List TCell) (k : Str) : Option TCell := l.find? fun c => c.Key == k
theorem AT9 {l : List TCell} (ha : adj cLess l = true) {i j : Nat} {a b : TCell} (hi : l[i]? = some a) (hj : l[j]? = some b) (hk : a.Key = b.Key) : i = j := by
  rcases Nat.lt_trichotomy i j with hlt | heq | hgt
  · have h9 := Y1 Y6 ha hlt hi hj
    unfold cLess at h9; rw [hk, J5] at h9; cases h9
  · exact heq
  · have h9 := Y1 Y6 ha hgt hj hi
    unfold cLess at h9; rw [hk, J5] at h9; cases h9
theorem findC_at {l : List TCell} (ha : adj cLess l = true) {i : Nat} {c : TCell} (hc : l[i]? = some c) : findC l c.Key = some c := by
  unfold findC
  cases hf : l.find? (fun x => x.Key == c.Key) with
  | none => have := List.find?_eq_none.1 hf c (H0 hc); simp at this
  | some d =>
    have h1 := List.find?_some hf
    obtain ⟨j, hj⟩ := List.getElem?_of_mem (List.mem_of_find?_eq_some hf)
    have := AT9 ha hj hc (by simpa using h1)
    subst this
    rw [hc] at hj; exact hj.symm
theorem r6 {l : List TCell} (h : adj cLess l = true) (k : Str) : findC l k = if cHas l k = true then l[cPos l k]? else none := by
  split
  · rename_i hh
    obtain ⟨x, hx, hk⟩ := i7.1 hh
    rw [hx, ← hk]; exact findC_at h hx
  · rename_i hh
    unfold findC
    rw [List.find?_eq_none]
    intro c hc hk
    simp only [beq_iff_eq] at hk
    obtain ⟨i, hi⟩ := List.getElem?_of_mem hc
    obtain ⟨h1, h2⟩ := AT8 h k
    rcases Nat.lt_trichotomy i (cPos l k) with hlt | heq | hgt
    · have := h1 i c hlt hi
      rw [hk, J5] at this; cases this
    · subst heq; exact hh (i7.2 ⟨c, hi, hk⟩)
    · obtain ⟨y, hy⟩ := Go.AV.get_some (show cPos l k < l.length by have := (List.getElem?_eq_some_iff.1 hi).1; omega)
      have h3 := h2 y hy
      have h4 := Y1 Y6 h hgt hy hi
      unfold cLess at h4
      rw [hk, h3] at h4; cases h4
def atC (l : List TCell) (k : Str) : Int := match l.findIdx? (fun c => c.Key == k) with
  | some i => (i : Int)
  | none => -1
theorem AG3 {l : List TCell} {k : Str} {i : Nat} {x : TCell} (hx : l[i]? = some x) (hk : x.Key = k) (h : ∀ j y, j < i → l[j]? = some y → y.Key ≠ k) : atC l k = (i : Int) := by
  have hl := (List.getElem?_eq_some_iff.1 hx)
  have : l.findIdx? (fun c => c.Key == k) = some i := by
    rw [List.findIdx?_eq_some_iff_getElem]
    refine ⟨hl.1, by rw [hl.2]; simp [hk], fun j hj => ?_⟩
    have hl1 := hl.1
    simpa using h j _ hj (List.getElem?_eq_getElem (show j < l.length by omega))
  unfold atC; rw [this]
theorem AG4 {l : List TCell} {k : Str} (h : ∀ (j : Nat) (y : TCell), l[j]? = some y → y.Key ≠ k) : atC l k = -1 := by
  have : l.findIdx? (fun c => c.Key == k) = none := by
    rw [List.findIdx?_eq_none_iff]
    intro x hx
    obtain ⟨j, hj⟩ := List.getElem?_of_mem hx
    simpa using h j x hj
  unfold atC; rw [this]
theorem AO4 {l : List TCell} {k : Str} (h : atC l k < 0) : findC l k = none := by
  unfold atC at h
  cases hf : l.findIdx? (fun c => c.Key == k) with
  | some i => rw [hf] at h; simp at h; omega
  | none =>
    rw [List.findIdx?_eq_none_iff] at hf
    unfold findC
    rw [List.find?_eq_none]
    intro c hc; simp [hf c hc]
theorem AO5 {l : List TCell} {k : Str} (h : ¬ atC l k < 0) : ∃ (p : Nat) (c : TCell), atC l k = (p : Int) ∧ l[p]? = some c ∧ findC l k = some c := by
  cases hf : l.findIdx? (fun c => c.Key == k) with
  | none => exfalso; unfold atC at h; rw [hf] at h; exact h (by decide)
  | some i =>
    have he : atC l k = (i : Int) := by unfold atC; rw [hf]
    rw [List.findIdx?_eq_some_iff_getElem] at hf
    obtain ⟨h1, h2, h3⟩ := hf
    refine ⟨i, l[i], he, List.getElem?_eq_getElem h1, ?_⟩
    unfold findC
    rw [List.find?_eq_some_iff_getElem]
    exact ⟨h2, i, h1, rfl, fun j hj => by simpa using h3 j hj⟩
def lastV (c : TCell) : Int := match c.Vers.getLast? with
  | some v => v.Time
  | none => 0
def lastTime (l : List TCell) (k : Str) : Int := match findC l k with
  | some c => lastV c
  | none => 0
def cellVal (c : TCell) (t : Int) : Str × Bool := match c.Vers.reverse.find? (fun v => decide (v.Time ≤ t)) with
  | some v => (v.Val, !v.Gone)
  | none => ([], false)
def cellsAt (l : List TCell) (t : Int) : List TWrite := l.filterMap fun c => if (cellVal c t).2 = true then some ⟨c.Key, (cellVal c t).1, false⟩ else none
def insC : List TCell → Str → TVer → List TCell
  | [], k, v => [⟨k, [v]⟩]
  | c :: l, k, v => if Op.bytesLess c.Key k = true then c :: insC l k v else if c.Key = k then ⟨k, c.Vers ++ [v]⟩ :: l else ⟨k, [v]⟩ :: c :: l
def putC1 (l : List TCell) (x : TWrite) (t : Int) : List TCell := insC l x.Key ⟨t, x.Val, x.Gone⟩
def putAll (l : List TCell) : List TWrite → Int → Option (List TCell)
  | [], _ => some l
  | x :: w, t => if decide (t ≤ lastTime l x.Key) = true then none else putAll (putC1 l x t) w t
def putCells (l : List TCell) (w : List TWrite) (t : Int) : List TCell × Bool := match putAll l w t with
  | none => ([], false)
  | some out => if (!goodCells out) = true then ([], false) else (out, true)
def CellsOk (l : List TCell) : Prop := adj cLess l = true ∧ ∀ c ∈ l, 1 ≤ c.Vers.length
theorem Q2 {l : List TCell} (h : goodCells l = true) : CellsOk l := ⟨(U7 h).2.1, fun c hc => ((U7 h).2.2 c hc).2.1⟩
def TCell.ocs (c : TCell) (x : Value) : List AV := [AV.str c.Key, AV.is x]
theorem t8 {α : Type} {f : α → Nat} {x : α} {l : List α} : sizeL f (x :: l) = 1 + f x + sizeL f l := by unfold sizeL; simp; omega
theorem AG5 {α : Type} {f : α → Nat} {l r : List α} : sizeL f (l ++ r) = sizeL f l + sizeL f r := by unfold sizeL; simp; omega
end Go.M

namespace Go.M
open Go.AV
def TRec.ocs (c : TRec) (x : Value × Value) : List AV := [AV.int c.Kind, AV.int c.Txn, AV.int c.Time, AV.int c.Lead, AV.is x.1, AV.is x.2, AV.bool c.Yes]
def TPlaces.ocs (c : TPlaces) (x : Value × Value) : List AV := [AV.int c.Ver, AV.is x.1, AV.is x.2]
def TMove.ocs (c : TMove) (x : Value × Value) : List AV := [AV.str c.Low, AV.str c.High, AV.int c.Phase, AV.is x.1, AV.is x.2, AV.str c.Last, AV.bool c.Over]
end Go.M

namespace Go.AV
section
variable {P : Program} {G : Nat → Prop} {n : Nat} {own : List Own}
section
variable {o : Oper} {E : EnvF}
end
section
variable {α : Type} {ok : α → Prop} {O : α → List Own} {V : α → AV} {o : Oper}
end
end
inductive OT where
  | nil
  | pure (i : Nat) (t : OT)
  | e1 (i : Nat) (t : OT)
  | e2 (i : Nat) (t : OT) (j : Nat) (u : OT)
section
variable {P : Program} {G : Nat → Prop} {n : Nat}
section
variable {ops : Array Oper} {i j : Nat} {o : Oper} {r u : OT} {env : List (Nat × AV)} {W : List Own} {base : List Own} {K : List (Nat × AV) → List Own → Prop} {d : Nat} {x : AV}
end
end
section
variable {T X : Type} {cs : T → List AV} {ocs : T → X → List AV} {ow : T → X → List Own}
end
section
variable {T : Type}
variable {mk : T → Int → T} {mn : T → Int → Int}
end
end Go.AV

namespace Go.M
open Go.AV
theorem m5 {α : Type} {f : α → Nat} {c : Nat} : ∀ {l : List α}, (∀ x ∈ l, f x ≤ c) → sizeL f l ≤ l.length * (c + 1)
  | [], _ => by simp [sizeL]
  | x :: l, h => by
    rw [t8]
    have h1 := h x List.mem_cons_self
    have h2 := m5 (l := l) fun y hy => h y (List.mem_cons_of_mem _ hy)
    rw [T2, Nat.add_mul]; omega
end Go.M

namespace Go.M
open Go.AV
end Go.M

namespace Go.M
open Go.AV
end Go.M

namespace Go.M
open Go.AV
def hRec (h : THeld) : TRec := ⟨1, h.Txn, h.Time, h.Lead, h.Reads, h.Writes, false⟩
def hasK (l : List TWrite) (k : Str) : Bool := l.any fun w => w.Key == k
def hasS (l : List Str) (k : Str) : Bool := l.any fun x => k == x
theorem T7 {l : List TWrite} {k : Str} : hasK l k = true ↔ ∃ w ∈ l, w.Key = k := by unfold hasK; simp
theorem Y2 {l : List Str} {k : Str} : hasS l k = true ↔ k ∈ l := by unfold hasS; simp
def overlap (ws : List TWrite) (rs : List Str) (os : List TWrite) : Bool := ws.any fun w => hasK os w.Key || hasS rs w.Key
def clash (h k : THeld) : Bool := overlap h.Writes k.Reads k.Writes || overlap k.Writes h.Reads h.Writes
def apart (h : THeld) (rs : List Str) (ws : List TWrite) : Bool := rs.all (fun k => !hasK h.Writes k) && ws.all (fun w => !(hasK h.Writes w.Key || hasS h.Reads w.Key))
theorem AC2 {h : THeld} {rs : List Str} {ws : List TWrite} : apart h rs ws = true ↔ (∀ k ∈ rs, ∀ w ∈ h.Writes, w.Key ≠ k) ∧ (∀ w ∈ ws, (∀ v ∈ h.Writes, v.Key ≠ w.Key) ∧ w.Key ∉ h.Reads) := by
  unfold apart
  simp only [Bool.and_eq_true, List.all_eq_true, Bool.not_eq_true', Bool.or_eq_false_iff]
  constructor
  · rintro ⟨h1, h2⟩
    refine ⟨fun k hk w hw e => ?_, fun w hw => ⟨fun v hv e => ?_, fun hr => ?_⟩⟩
    · have := h1 k hk; rw [T7.2 ⟨w, hw, e⟩] at this; cases this
    · have := (h2 w hw).1; rw [T7.2 ⟨v, hv, e⟩] at this; cases this
    · have := (h2 w hw).2; rw [Y2.2 hr] at this; cases this
  · rintro ⟨h1, h2⟩
    refine ⟨fun k hk => ?_, fun w hw => ⟨?_, ?_⟩⟩
    · cases e : hasK h.Writes k with
      | false => rfl
      | true => obtain ⟨v, hv, ev⟩ := T7.1 e; exact (h1 k hk v hv ev).elim
    · cases e : hasK h.Writes w.Key with
      | false => rfl
      | true => obtain ⟨v, hv, ev⟩ := T7.1 e; exact ((h2 w hw).1 v hv ev).elim
    · cases e : hasS h.Reads w.Key with
      | false => rfl
      | true => exact ((h2 w hw).2 (Y2.1 e)).elim
theorem o7 (h g : THeld) : clash h g = !apart g h.Reads h.Writes := by
  cases ha : apart g h.Reads h.Writes with
  | true =>
    obtain ⟨h1, h2⟩ := AC2.1 ha
    refine Bool.eq_false_iff.2 fun hc => ?_
    unfold clash overlap at hc
    simp only [Bool.or_eq_true, List.any_eq_true] at hc
    rcases hc with ⟨w, hw, e | e⟩ | ⟨w, hw, e | e⟩
    · obtain ⟨v, hv, ev⟩ := T7.1 e; exact (h2 w hw).1 v hv ev
    · exact (h2 w hw).2 (Y2.1 e)
    · obtain ⟨v, hv, ev⟩ := T7.1 e; exact (h2 v hv).1 w hw ev.symm
    · exact h1 _ (Y2.1 e) w hw rfl
  | false =>
    rw [Bool.not_false]
    cases hc : clash h g with
    | true => rfl
    | false =>
      rw [← ha, AC2.2]
      unfold clash overlap at hc
      simp only [Bool.or_eq_false_iff, List.any_eq_false, Bool.or_eq_true, not_or] at hc
      refine ⟨fun k hk w hw e => (hc.2 w hw).2 (Y2.2 (e ▸ hk)), fun w hw => ⟨fun v hv e => (hc.1 w hw).1 (T7.2 ⟨v, hv, e⟩), fun hr => (hc.1 w hw).2 (Y2.2 hr)⟩⟩
def fullC (cells : List TCell) (k : Str) : Bool := match findC cells k with
  | some c => decide (16 ≤ c.Vers.length)
  | none => false
def hWs (l : List THeld) : List TWrite := (l.map THeld.Writes).flatten
def roomKs (cells : List TCell) (ws : List TWrite) : List Str := keysI (cKeys cells ++ wKeys ws)
def room (cells : List TCell) (ws : List TWrite) : Bool := ws.all (fun w => !fullC cells w.Key) && decide ((roomKs cells ws).length ≤ 24)
theorem u3 (a b : List THeld) : hWs (a ++ b) = hWs a ++ hWs b := by unfold hWs; simp
theorem c8 (a : THeld) (b : List THeld) : hWs (a :: b) = a.Writes ++ hWs b := by unfold hWs; simp
def allB (n : Nat) (p : Nat → Bool) : Bool := (List.range n).all p
theorem V3 {n : Nat} {p : Nat → Bool} : allB n p = true ↔ ∀ i, i < n → p i = true := by unfold allB; simp
theorem Q0 {n i : Nat} {p : Nat → Bool} (hi : i < n) (h : p i = false) : allB n p = false := by
  cases e : allB n p with
  | false => rfl
  | true => rw [V3.1 e i hi] at h; cases h
def hasH (l : List THeld) (n : Int) : Bool := l.any fun h => h.Txn == n
def hPrev (l : List THeld) (i : Nat) (n : Int) : Bool := match l[i - 1]? with
  | some g => !(decide (0 < i) && decide (n ≤ g.Txn))
  | none => true
def tPrev (l : List TTold) (i : Nat) (n : Int) : Bool := match l[i - 1]? with
  | some g => !(decide (0 < i) && decide (n ≤ g.Txn))
  | none => true
def heldAt (s : TState) (i : Nat) : Bool := match s.Held[i]? with
  | none => true
  | some h => (((goodRec (hRec h) && !decide (s.Floor < h.Time)) && hPrev s.Held i h.Txn) && (s.Held.take i).all fun g => apart g h.Reads h.Writes) && h.Writes.all fun w => decide (lastTime s.Cells w.Key < h.Time)
def areHeld (s : TState) : Bool := allB s.Held.length (heldAt s) && (decide (s.Held.length ≤ 12) && room s.Cells (hWs s.Held))
def tFits (s : TState) (t : TTold) : Bool := if t.Yes = true then within t.Time 1 s.Floor else t.Time == 0
def toldAt (s : TState) (i : Nat) : Bool := match s.Told[i]? with
  | none => true
  | some t => ((isTxnR t.Txn && tFits s t) && tPrev s.Told i t.Txn) && !hasH s.Held t.Txn
def goodState (s : TState) : Bool := ((((isTrue s.Floor && goodCells s.Cells) && areHeld s) && decide (s.Told.length ≤ 60)) && s.Cells.all fun c => decide (lastTime s.Cells c.Key ≤ s.Floor)) && allB s.Told.length (toldAt s)
structure GS (s : TState) : Prop where
  floor : 0 ≤ s.Floor ∧ s.Floor ≤ 100000
  cells : goodCells s.Cells = true
  good : ∀ h ∈ s.Held, goodRec (hRec h) = true ∧ h.Time ≤ s.Floor ∧ ∀ w ∈ h.Writes, lastTime s.Cells w.Key < h.Time
  hsort : s.Held.Pairwise fun a b => a.Txn < b.Txn
  apart : s.Held.Pairwise fun a b => apart a b.Reads b.Writes = true
  hlen : s.Held.length ≤ 12
  room : room s.Cells (hWs s.Held) = true
  tlen : s.Told.length ≤ 60
  last : ∀ c ∈ s.Cells, lastTime s.Cells c.Key ≤ s.Floor
  told : ∀ t ∈ s.Told, isTxnR t.Txn = true ∧ tFits s t = true ∧ hasH s.Held t.Txn = false
  tsort : s.Told.Pairwise fun a b => a.Txn < b.Txn
theorem i8 {α : Type} {f : α → Int} {l : List α} (h : ∀ (i : Nat) (x y : α), 0 < i → l[i]? = some x → l[i - 1]? = some y → f y < f x) : l.Pairwise fun a b => f a < f b := by
  have key : ∀ (j i : Nat) (x y : α), i < j → l[j]? = some x → l[i]? = some y → f y < f x := by
    intro j
    induction j with
    | zero => intro i x y hi; omega
    | succ j ih =>
      intro i x y hi hx hy
      have hj := (List.getElem?_eq_some_iff.1 hx).1
      have hz := List.getElem?_eq_getElem (show j < l.length by omega)
      have h1 := h (j + 1) x _ (by omega) hx hz
      rcases Nat.lt_or_ge i j with h2 | h2
      · have := ih i _ y h2 hz hy; omega
      · have : i = j := by omega
        subst this; rw [hz] at hy; injection hy with hy; subst hy; exact h1
  rw [List.pairwise_iff_getElem]
  intro i j hi hj hij
  exact key j i _ _ hij (List.getElem?_eq_getElem hj) (List.getElem?_eq_getElem hi)
theorem m6 {l : List THeld} {i : Nat} {n : Int} : hPrev l i n = true ↔ ∀ g, 0 < i → l[i - 1]? = some g → g.Txn < n := by
  unfold hPrev
  cases h : l[i - 1]? with
  | none => simp
  | some g =>
    simp only [Bool.not_eq_true', Bool.and_eq_false_iff, decide_eq_false_iff_not]
    exact ⟨fun k y h0 e => by injection e with e; subst e; omega, fun k => if h0 : 0 < i then .inr (by have := k g h0 rfl; omega) else .inl h0⟩
theorem AC3 {l : List TTold} {i : Nat} {n : Int} : tPrev l i n = true ↔ ∀ g, 0 < i → l[i - 1]? = some g → g.Txn < n := by
  unfold tPrev
  cases h : l[i - 1]? with
  | none => simp
  | some g =>
    simp only [Bool.not_eq_true', Bool.and_eq_false_iff, decide_eq_false_iff_not]
    exact ⟨fun k y h0 e => by injection e with e; subst e; omega, fun k => if h0 : 0 < i then .inr (by have := k g h0 rfl; omega) else .inl h0⟩
theorem AC4 {α : Type} {p : α → α → Prop} {l : List α} : l.Pairwise p ↔ ∀ (i : Nat) (x : α), l[i]? = some x → ∀ y ∈ l.take i, p y x := by
  rw [List.pairwise_iff_getElem]
  constructor
  · intro h i x hx y hy
    obtain ⟨j, hj⟩ := List.getElem?_of_mem hy
    have hi := (List.getElem?_eq_some_iff.1 hx)
    have hjl := (List.getElem?_eq_some_iff.1 hj).1
    rw [G2] at hjl
    rw [List.getElem?_take_of_lt (by omega)] at hj
    have hj2 := (List.getElem?_eq_some_iff.1 hj)
    obtain ⟨hi1, hi2⟩ := hi
    obtain ⟨hj3, hj4⟩ := hj2
    have := h j i hj3 hi1 (by omega)
    rw [hi2, hj4] at this; exact this
  · intro h i j hi hj hij
    refine h j _ (List.getElem?_eq_getElem hj) _ (H0 (i := i) ?_)
    rw [List.getElem?_take_of_lt hij]; exact List.getElem?_eq_getElem hi
theorem j7 {s : TState} : goodState s = true ↔ GS s := by
  unfold goodState areHeld
  simp only [Bool.and_eq_true, decide_eq_true_eq, V3, List.all_eq_true]
  constructor
  · rintro ⟨⟨⟨⟨⟨h1, h2⟩, h3, h4, h5⟩, h6⟩, h7⟩, h8⟩
    have hh : ∀ (i : Nat) (h : THeld), s.Held[i]? = some h → goodRec (hRec h) = true ∧ h.Time ≤ s.Floor ∧ (∀ g, 0 < i → s.Held[i - 1]? = some g → g.Txn < h.Txn) ∧ (∀ g ∈ s.Held.take i, apart g h.Reads h.Writes = true) ∧ ∀ w ∈ h.Writes, lastTime s.Cells w.Key < h.Time := fun i h hi => by
      have := h3 i (List.getElem?_eq_some_iff.1 hi).1
      unfold heldAt at this
      rw [hi] at this
      simp only [Bool.and_eq_true, List.all_eq_true, decide_eq_true_eq, m6, Bool.not_eq_true', decide_eq_false_iff_not] at this
      exact ⟨this.1.1.1.1, by omega, this.1.1.2, this.1.2, this.2⟩
    have ht : ∀ (i : Nat) (t : TTold), s.Told[i]? = some t → isTxnR t.Txn = true ∧ tFits s t = true ∧ (∀ g, 0 < i → s.Told[i - 1]? = some g → g.Txn < t.Txn) ∧ hasH s.Held t.Txn = false := fun i t hi => by
      have := h8 i (List.getElem?_eq_some_iff.1 hi).1
      unfold toldAt at this
      rw [hi] at this
      simp only [Bool.and_eq_true, AC3, Bool.not_eq_true'] at this
      exact ⟨this.1.1.1, this.1.1.2, this.1.2, this.2⟩
    unfold isTrue within at h1
    simp only [Bool.and_eq_true, decide_eq_true_eq] at h1
    refine ⟨h1, h2, fun h hm => ?_, i8 fun i x y h0 hx hy => (hh i x hx).2.2.1 y h0 hy, AC4.2 fun i x hx => (hh i x hx).2.2.2.1, h4, h5, h6, h7, fun t hm => ?_, i8 fun i x y h0 hx hy => (ht i x hx).2.2.1 y h0 hy⟩
    · obtain ⟨i, hi⟩ := List.getElem?_of_mem hm
      have := hh i h hi
      exact ⟨this.1, this.2.1, this.2.2.2.2⟩
    · obtain ⟨i, hi⟩ := List.getElem?_of_mem hm
      have := ht i t hi
      exact ⟨this.1, this.2.1, this.2.2.2⟩
  · intro g
    have hch : ∀ {α : Type} {f : α → Int} {l : List α}, (l.Pairwise fun a b => f a < f b) → ∀ (i : Nat) (x y : α), 0 < i → l[i]? = some x → l[i - 1]? = some y → f y < f x := fun {α f l} hp i x y h0 hx hy => by
      obtain ⟨hx1, hx2⟩ := List.getElem?_eq_some_iff.1 hx
      obtain ⟨hy1, hy2⟩ := List.getElem?_eq_some_iff.1 hy
      have := List.pairwise_iff_getElem.1 hp (i - 1) i hy1 hx1 (by omega)
      rw [hx2, hy2] at this; exact this
    refine ⟨⟨⟨⟨⟨?_, g.cells⟩, fun i hi => ?_, g.hlen, g.room⟩, g.tlen⟩, g.last⟩, fun i hi => ?_⟩
    · unfold isTrue within; simp [g.floor]
    · unfold heldAt
      rw [List.getElem?_eq_getElem hi]
      have hx := List.getElem?_eq_getElem hi
      obtain ⟨g1, g2, g3⟩ := g.good _ (H0 hx)
      simp only [Bool.and_eq_true, List.all_eq_true, decide_eq_true_eq, m6, Bool.not_eq_true', decide_eq_false_iff_not]
      exact ⟨⟨⟨⟨g1, by omega⟩, fun y h0 hy => hch g.hsort i _ y h0 hx hy⟩, fun y hy => AC4.1 g.apart i _ hx y hy⟩, g3⟩
    · unfold toldAt
      rw [List.getElem?_eq_getElem hi]
      have hx := List.getElem?_eq_getElem hi
      obtain ⟨g1, g2, g3⟩ := g.told _ (H0 hx)
      simp only [Bool.and_eq_true, AC3, Bool.not_eq_true']
      exact ⟨⟨⟨g1, g2⟩, fun y h0 hy => hch g.tsort i _ y h0 hx hy⟩, g3⟩
end Go.M

namespace Go.M
open Go.AV
def findH (l : List THeld) (n : Int) : Option THeld := l.find? fun h => h.Txn == n
theorem hasH_iff {l : List THeld} {n : Int} : hasH l n = true ↔ ∃ h ∈ l, h.Txn = n := by unfold hasH; simp
theorem AQ3 {l : List THeld} {n : Int} {h : THeld} (e : findH l n = some h) : h ∈ l ∧ h.Txn = n := by
  unfold findH at e
  exact ⟨List.mem_of_find?_eq_some e, by simpa using List.find?_some e⟩
theorem AQ4 {l : List THeld} {n : Int} : findH l n = none ↔ hasH l n = false := by
  unfold findH hasH; rw [List.find?_eq_none, List.any_eq_false]
end Go.M

set_option maxRecDepth 100000
namespace Go.Proofs.YtkegepoihkhihaaGreat
open Go Go.AV Go.M
attribute [local irreducible] OpW OpA OpS AWP FSpec ESpec RetOk RvDen Le Ev GuardIs
theorem Q6 (a b c : Int) : FSpec Tryz.prog 82 [AV.int a, AV.int b, AV.int c] (AV.bool (within a b c)) := by
 refine C1 Tryz.func82 rfl Tryz.ntmps82 rfl ?_
 refine A3 (A2 ?_)
 refine A1 rfl (A8 rfl D8) ?_
 refine A4 (A3 (A2 ?_))
 refine A5 rfl ?_
 refine A5 rfl ?_
 refine A1 rfl (R8 rfl (A0 rfl) (A0 rfl)) ?_
 refine A5 rfl ?_
 refine C4 rfl (fun hc => C3 rfl (A0 rfl)) ?_
 refine C4 rfl (fun hc => C3 rfl (A0 rfl)) ?_
 refine C4 rfl (fun hc => O6 rfl (A7 rfl hc) (A7 rfl hc)) ?_
 refine A1 rfl (G4 rfl (A0 rfl) (E9 rfl)) ?_
 refine B5 rfl ?_
 refine A4 ?_
 refine B7 ?_
 exact D7 rfl (B6 rfl (by first | rfl | (refine congrArg AV.bool ?_; simp_all; done)))
theorem P7 (a b c : Int) : FSpec Tryz.prog 39 [AV.int a, AV.int b, AV.int c] (AV.bool (within a b c)) := by
 refine C1 Tryz.func39 rfl Tryz.ntmps39 rfl ?_
 refine A3 (A2 ?_)
 refine A1 rfl (A8 rfl D8) ?_
 refine A4 (A3 (A2 ?_))
 refine A5 rfl ?_
 refine A5 rfl ?_
 refine A1 rfl (R8 rfl (A0 rfl) (A0 rfl)) ?_
 refine A5 rfl ?_
 refine C4 rfl (fun hc => C3 rfl (A0 rfl)) ?_
 refine C4 rfl (fun hc => C3 rfl (A0 rfl)) ?_
 refine C4 rfl (fun hc => O6 rfl (A7 rfl hc) (A7 rfl hc)) ?_
 refine A1 rfl (G4 rfl (A0 rfl) (E9 rfl)) ?_
 refine B5 rfl ?_
 refine A4 ?_
 refine B7 ?_
 exact D7 rfl (B6 rfl (by first | rfl | (refine congrArg AV.bool ?_; simp_all; done)))
theorem AK7 (c : UInt8) : FSpec Tryz.prog 208 [AV.byte c] (AV.bool (lowDig c)) := by
 refine C1 Tryz.func208 rfl Tryz.ntmps208 rfl ?_
 refine A3 (A2 ?_)
 refine A1 rfl (A8 rfl D8) ?_
 refine A4 (A3 (A2 ?_))
 refine A5 rfl ?_
 refine A1 rfl (R8 rfl (A0 rfl) B3) ?_
 refine A5 rfl ?_
 refine C4 rfl (fun hc => C3 rfl (A0 rfl)) ?_
 refine C4 rfl (fun hc => O6 rfl (A7 rfl hc) B3) ?_
 refine A1 rfl (G4 rfl (A0 rfl) (E9 rfl)) ?_
 refine A5 rfl ?_
 refine I0 rfl (fun hc => C3 rfl (A0 rfl)) ?_
 refine I0 rfl (fun hc => R8 rfl (A7 rfl hc) B3) ?_
 refine I0 rfl (fun hc => C3 rfl (A7 rfl hc)) ?_
 refine F9 rfl rfl (C9 rfl rfl rfl) (fun hc => C3 rfl (A0 rfl)) ?_
 refine F9 rfl rfl (C9 rfl rfl rfl) (fun hc => O6 rfl (A7 rfl hc) B3) ?_
 refine I0 rfl (fun hc => G4 rfl (A7 rfl hc) (K4 rfl hc)) ?_
 refine A1 rfl (M5 rfl (A0 rfl) (E9 rfl)) ?_
 refine B5 rfl ?_
 refine A4 ?_
 refine B7 ?_
 exact D7 rfl (B6 rfl (by first | rfl | (refine congrArg AV.bool ?_; simp_all; done)))
theorem idxB_ext (s : Str) (c : UInt8) : ESpec Tryz.prog 241 [AV.str s, AV.byte c] (AV.int (idxB s c)) := espec_mk fun R w vs h => by
  obtain ⟨v, u, rfl, h1, h2⟩ := denV_two h
  have e1 : v = .string ⟨s.toArray⟩ := h1
  have e2 : u = .int .u8 c.toNat := h2
  subst e1; subst e2
  refine ⟨.int .i64 (idxB s c), ?_, rfl⟩
  rw [run_callFunc_indexByte Tryz.func241 (by kernel_rfl) (by kernel_rfl) (by kernel_rfl) (by kernel_rfl), run_indexByte_string]
  simp [idxB]
theorem AQ5 (s : Str) (c : UInt8) : FSpec Tryz.prog 226 [AV.str s, AV.byte c] (AV.int (idxB s c)) := by
 refine C1 Tryz.func226 rfl Tryz.ntmps226 rfl ?_
 refine A3 (A2 ?_)
 refine A1 rfl (A8 rfl B3) ?_
 refine A4 (A3 (A2 ?_))
 refine A5 rfl ?_
 refine A5 rfl ?_
 refine A1 rfl (w_ext rfl rfl (idxB_ext _ _) (A9 (A0 rfl) (A9 (A0 rfl) C6))) ?_
 refine B5 rfl ?_
 refine A4 ?_
 refine B7 ?_
 exact D7 rfl (B6 rfl (by first | rfl | (refine congrArg AV.bool ?_; simp_all; done)))
theorem AU0 (s : Str) (c : UInt8) : FSpec Tryz.prog 209 [AV.str s, AV.byte c] (AV.int (idxB s c)) := by
 refine C1 Tryz.func209 rfl Tryz.ntmps209 rfl ?_
 refine A3 (A2 ?_)
 refine A1 rfl (A8 rfl B3) ?_
 refine A4 (A3 (A2 ?_))
 refine A5 rfl ?_
 refine A5 rfl ?_
 refine A1 rfl (D4 rfl Tryz.call226 rfl (AQ5 _ _) (A9 (A0 rfl) (A9 (A0 rfl) C6))) ?_
 refine B5 rfl ?_
 refine A4 ?_
 refine B7 ?_
 exact D7 rfl (B6 rfl (by first | rfl | (refine congrArg AV.bool ?_; simp_all; done)))
theorem AC5 (s o : Str) (hs : s.length ≤ 4611686018427387904) : FSpec Tryz.prog 166 [AV.str s, AV.str o] (AV.bool (hasB s o)) := by
 refine C1 Tryz.func166 rfl Tryz.ntmps166 rfl ?_
 refine A3 (A2 ?_)
 refine A1 rfl (A8 rfl D8) ?_
 refine A4 (A3 (A3 (A2 ?_)))
 refine A5 rfl ?_
 refine A1 rfl (T8 rfl H6 (A0 rfl)) ?_
 refine A1 rfl (C3 rfl B3) ?_
 refine A4 (C5 ?_)
 refine G0 [(0, _), (1, _), (7, _)] _ (fun (i : Nat) => i ≤ s.length ∧ hasB s o = hasB (s.drop i) o) (fun (i : Nat) => []) (fun (i : Nat) => [(8, AV.int i)]) (fun (i : Nat) => s.length - i) (0) ?_ (G1 ⟨rfl, rfl, rfl, rfl, trivial⟩) ?_
 ·exact ⟨Nat.zero_le _, rfl⟩
 intro i hinv
 refine A3 (A2 ?_)
 refine A1 rfl (F8 rfl (A0 rfl) (A0 rfl)) ?_
 refine A4 (A3 ?_)
 refine B8 (A0 rfl) ?_ ?_
 ·intro h9
  have k9 := of_decide_eq_true h9; try simp only [A6] at k9
  have hlt : i < s.length := by have := of_decide_eq_true h9; omega
  obtain ⟨c, hc⟩ := get_some hlt
  refine B9 (A3 (C5 (A3 (A2 ?_))))
  refine A5 rfl ?_
  refine B5 rfl ?_
  refine A4 (A3 (A2 ?_))
  refine A5 rfl ?_
  refine A5 rfl ?_
  refine A1 rfl (Y9 rfl H6 (A0 rfl) (A0 rfl) (by first | omega | (simp only [D1, B1, szR] at *; omega)) (by assumption)) ?_
  refine A1 rfl (D4 rfl Tryz.call208 rfl (AK7 _) (A9 (A0 rfl) C6)) ?_
  refine A1 rfl (I3 rfl (A0 rfl)) ?_
  refine A5 rfl ?_
  refine C4 rfl (fun hc => C3 rfl (A0 rfl)) ?_
  refine C4 rfl (fun hc => C3 rfl (A0 rfl)) ?_
  refine C4 rfl (fun hc => C3 rfl (A0 rfl)) ?_
  refine C4 rfl (fun hc => Y9 rfl H6 (A7 rfl hc) (A7 rfl hc) (by first | omega | ((try simp only [D1, B1, szR] at *); omega) | (have hc2 := hc; simp only [L4, beq_iff_eq, bne_iff_ne, A6, G2] at hc2; omega)) (by assumption)) ?_
  refine C4 rfl (fun hc => D4 rfl Tryz.call209 rfl (AU0 _ _) (A9 (A7 rfl hc) (A9 (A7 rfl hc) C6))) ?_
  refine C4 rfl (fun hc => F8 rfl (A7 rfl hc) B3) ?_
  refine A1 rfl (G4 rfl (A0 rfl) (E9 rfl)) ?_
  refine A4 ?_
  refine B8 (A0 rfl) ?_ ?_
  ·intro h23
   have hfin : hasB s o = false := by rw [hinv.2, drop_some hc, AB5, h23]; rfl
   refine A3 (A2 ?_)
   refine A1 rfl (A8 rfl D8) ?_
   refine A4 ?_
   refine B7 ?_
   exact D7 rfl (B6 rfl (by first | exact congrArg AV.bool hfin.symm | exact congrArg AV.bool (by rw [hinv.2, List.drop_eq_nil_of_le hge]; rfl)))
  intro h23
  refine B9 (A2 ?_)
  refine A1 rfl (G6 rfl (A0 rfl) B3 (by first | omega | (simp only [D1, B1, szR] at *; omega))) ?_
  refine A5 rfl ?_
  refine A4 ?_
  refine G9 i (i + 1) ?_ ?_ (G1 ⟨rfl, rfl, rfl, rfl, trivial⟩)
  ·exact ⟨by omega, by rw [hinv.2, drop_some hc, AB5, h23]; rfl⟩
  omega
 intro h9
 have k9 := of_decide_eq_false h9; try simp only [A6] at k9
 have hge : s.length ≤ i := by have := of_decide_eq_false h9; omega
 refine F3 ?_
 refine A3 (A2 ?_)
 refine A1 rfl (A8 rfl D8) ?_
 refine A4 ?_
 refine B7 ?_
 exact D7 rfl (B6 rfl (by first | exact congrArg AV.bool hfin.symm | exact congrArg AV.bool (by rw [hinv.2, List.drop_eq_nil_of_le hge]; rfl)))
theorem m7 (s o : Str) (hs : s.length ≤ 4611686018427387904) (ho : o.length ≤ 4611686018427387904) : FSpec Tryz.prog 223 [AV.str s, AV.str o] (AV.bool (l3Bytes s o)) := by
 refine C1 Tryz.func223 rfl Tryz.ntmps223 rfl ?_
 refine A3 (A2 ?_)
 refine A1 rfl (A8 rfl D8) ?_
 refine A4 (A3 (A3 (A2 ?_)))
 refine A1 rfl (A8 rfl B3) ?_
 refine A4 (C5 ?_)
 refine G0 [(0, _), (1, _)] _ (fun (i : Nat) => i ≤ s.length ∧ l3Bytes s o = l3Bytes (s.drop i) o) (fun (i : Nat) => []) (fun (i : Nat) => [(5, AV.int i)]) (fun (i : Nat) => s.length - i) (0) ?_ (G1 ⟨rfl, rfl, rfl, trivial⟩) ?_
 ·exact ⟨Nat.zero_le _, rfl⟩
 intro i hinv
 have hinv0 := hinv; clear hinv
 refine A3 (A3 (A2 ?_))
 refine A5 rfl ?_
 refine A5 rfl ?_
 refine A1 rfl (T8 rfl H6 (A0 rfl)) ?_
 refine A1 rfl (F8 rfl (A0 rfl) (A0 rfl)) ?_
 refine A4 ?_
 refine B8 (A0 rfl) ?_ ?_
 ·intro h11
  have k11 := of_decide_eq_true h11; try simp only [A6] at k11
  have hlt : i < s.length := by have := of_decide_eq_true h11; omega
  obtain ⟨c, hc⟩ := get_some hlt
  refine B9 (A3 (C5 (A3 (A2 ?_))))
  refine A5 rfl ?_
  refine A5 rfl ?_
  refine A1 rfl (Y9 rfl H6 (A0 rfl) (A0 rfl) (by first | omega | (simp only [D1, B1, szR] at *; omega)) (by assumption)) ?_
  refine A1 rfl (R8 rfl (A0 rfl) B3) ?_
  refine A5 rfl ?_
  refine C4 rfl (fun hc => C3 rfl (A0 rfl)) ?_
  refine C4 rfl (fun hc => C3 rfl (A0 rfl)) ?_
  refine C4 rfl (fun hc => Y9 rfl H6 (A7 rfl hc) (A7 rfl hc) (by first | omega | ((try simp only [D1, B1, szR] at *); omega) | (have hc2 := hc; simp only [L4, beq_iff_eq, bne_iff_ne, A6, G2] at hc2; omega)) (by assumption)) ?_
  refine C4 rfl (fun hc => O6 rfl (A7 rfl hc) B3) ?_
  refine A1 rfl (G4 rfl (A0 rfl) (E9 rfl)) ?_
  refine A5 rfl ?_
  refine I0 rfl (fun hc => C3 rfl (A0 rfl)) ?_
  refine I0 rfl (fun hc => C3 rfl (A0 rfl)) ?_
  refine I0 rfl (fun hc => Y9 rfl H6 (A7 rfl hc) (A7 rfl hc) (by first | omega | ((try simp only [D1, B1, szR] at *); omega) | (have hc2 := hc; simp only [L4, beq_iff_eq, bne_iff_ne, A6, G2] at hc2; omega)) (by assumption)) ?_
  refine I0 rfl (fun hc => R8 rfl (A7 rfl hc) B3) ?_
  refine I0 rfl (fun hc => C3 rfl (A7 rfl hc)) ?_
  refine F9 rfl rfl (C9 rfl rfl rfl) (fun hc => C3 rfl (A0 rfl)) ?_
  refine F9 rfl rfl (C9 rfl rfl rfl) (fun hc => C3 rfl (A0 rfl)) ?_
  refine F9 rfl rfl (C9 rfl rfl rfl) (fun hc => Y9 rfl H6 (A7 rfl hc) (A7 rfl hc) (by first | omega | ((try simp only [D1, B1, szR] at *); omega) | (have hc2 := hc; simp only [L4, beq_iff_eq, bne_iff_ne, A6, G2] at hc2; omega)) (by assumption)) ?_
  refine F9 rfl rfl (C9 rfl rfl rfl) (fun hc => O6 rfl (A7 rfl hc) B3) ?_
  refine I0 rfl (fun hc => G4 rfl (A7 rfl hc) (K4 rfl hc)) ?_
  refine A1 rfl (M5 rfl (A0 rfl) (E9 rfl)) ?_
  refine B5 rfl ?_
  refine A4 (A3 (A3 (A2 ?_)))
  refine A1 rfl (A8 rfl B3) ?_
  refine A4 (C5 ?_)
  refine M3 [(0, _), (1, _), (5, _), (8, _), (9, _), (10, _), (11, _), (14, _), (15, _), (16, _), (17, _), (18, _), (23, _), (24, _), (35, _)] _ (fun (k : Nat) (b : Bool) => k ≤ o.length ∧ (lowDig c || o.any fun d => ((c.toNat : Int) == (d.toNat : Int))) = (b || (o.drop k).any fun d => ((c.toNat : Int) == (d.toNat : Int)))) (fun (k : Nat) (b : Bool) => []) (fun (k : Nat) (b : Bool) => [(6, AV.bool b), (7, AV.int k)]) (fun (k : Nat) (b : Bool) => o.length - k) (0) (lowDig c) ?_ (G1 ⟨rfl, rfl, rfl, rfl, rfl, rfl, rfl, rfl, rfl, rfl, rfl, rfl, rfl, rfl, rfl, rfl, rfl, trivial⟩) ?_
  ·exact ⟨Nat.zero_le _, rfl⟩
  intro k b hinv
  refine A3 (A3 (A2 ?_))
  refine A5 rfl ?_
  refine A5 rfl ?_
  refine A1 rfl (T8 rfl H6 (A0 rfl)) ?_
  refine A1 rfl (F8 rfl (A0 rfl) (A0 rfl)) ?_
  refine A4 ?_
  refine B8 (A0 rfl) ?_ ?_
  ·intro h39
   have k39 := of_decide_eq_true h39; try simp only [A6] at k39
   have hlt2 : k < o.length := by have := of_decide_eq_true h39; omega
   obtain ⟨d, hd⟩ := get_some hlt2
   refine B9 (A3 (C5 ?_))
   refine H5 (by kernel_rfl) (by kernel_rfl) rfl ?_
   refine B4 rfl rfl (C3 rfl (A0 rfl)) ?_
   refine B4 rfl rfl (C3 rfl (A0 rfl)) ?_
   refine D3 rfl (F2 rfl rfl rfl) (fun hc => C3 rfl (A0 rfl)) ?_
   refine D3 rfl (F2 rfl rfl rfl) (fun hc => C3 rfl (A0 rfl)) ?_
   refine D3 rfl (F2 rfl rfl rfl) (fun hc => Y9 rfl H6 (A7 rfl hc) (A7 rfl hc) (by first | omega | ((try simp only [D1, B1, szR] at *); omega) | (have hc2 := hc; simp only [L4, beq_iff_eq, bne_iff_ne, A6, G2] at hc2; omega)) (by assumption)) ?_
   refine D3 rfl (F2 rfl rfl rfl) (fun hc => C3 rfl (A0 rfl)) ?_
   refine D3 rfl (F2 rfl rfl rfl) (fun hc => C3 rfl (A0 rfl)) ?_
   refine D3 rfl (F2 rfl rfl rfl) (fun hc => Y9 rfl H6 (A7 rfl hc) (A7 rfl hc) (by first | omega | ((try simp only [D1, B1, szR] at *); omega) | (have hc2 := hc; simp only [L4, beq_iff_eq, bne_iff_ne, A6, G2] at hc2; omega)) (by assumption)) ?_
   refine D3 rfl (F2 rfl rfl rfl) (fun hc => N1 rfl (A7 rfl hc) (A7 rfl hc)) ?_
   refine B4 rfl rfl (M5 rfl (A0 rfl) (E9 rfl)) ?_
   refine B4 rfl rfl (A8 rfl (A0 rfl)) ?_
   refine M6 ?_
   refine A2 ?_
   refine A5 rfl ?_
   refine A1 rfl (G6 rfl (A0 rfl) B3 (by first | omega | (simp only [D1, B1, szR] at *; omega))) ?_
   refine B5 rfl ?_
   refine A4 ?_
   refine L8 k b (k + 1) ((b || ((c.toNat : Int) == (d.toNat : Int)))) ?_ ?_ (G1 ⟨rfl, rfl, rfl, rfl, rfl, rfl, rfl, rfl, rfl, rfl, rfl, rfl, rfl, rfl, rfl, rfl, rfl, trivial⟩)
   ·exact ⟨by omega, by rw [hinv.2, drop_some hd, List.any_cons, Bool.or_assoc]⟩
   omega
  intro h39
  have k39 := of_decide_eq_false h39; try simp only [A6] at k39
  have hge2 : o.length ≤ k := by have := of_decide_eq_false h39; omega
  have hg : (lowDig c || o.any fun d => ((c.toNat : Int) == (d.toNat : Int))) = b := by rw [hinv.2, List.drop_eq_nil_of_le hge2]; simp
  refine F3 ?_
  refine A3 (A2 ?_)
  refine A5 rfl ?_
  refine A1 rfl (I3 rfl (A0 rfl)) ?_
  refine A4 ?_
  refine B8 (A0 rfl) ?_ ?_
  ·intro h53
   have hfin : l3Bytes s o = false := by rw [hinv0.2, drop_some hc, m1, hg]; cases b <;> simp_all
   refine A3 (A2 ?_)
   refine A1 rfl (A8 rfl D8) ?_
   refine A4 ?_
   refine B7 ?_
   exact D7 rfl (B6 rfl (by first | exact congrArg AV.bool hfin.symm | exact congrArg AV.bool (by rw [hinv0.2, List.drop_eq_nil_of_le hge]; rfl)))
  intro h53
  have hb : b = true := by cases b <;> simp_all
  refine B9 (A2 ?_)
  refine A5 rfl ?_
  refine A1 rfl (G6 rfl (A0 rfl) B3 (by first | omega | (simp only [D1, B1, szR] at *; omega))) ?_
  refine B5 rfl ?_
  refine A4 ?_
  refine G9 i (i + 1) ?_ ?_ (G1 ⟨rfl, rfl, rfl, trivial⟩)
  ·exact ⟨by omega, by rw [hinv0.2, drop_some hc, m1, hg, hb]; rfl⟩
  omega
 intro h11
 have k11 := of_decide_eq_false h11; try simp only [A6] at k11
 have hge : s.length ≤ i := by have := of_decide_eq_false h11; omega
 refine F3 ?_
 refine A3 (A2 ?_)
 refine A1 rfl (A8 rfl D8) ?_
 refine A4 ?_
 refine B7 ?_
 exact D7 rfl (B6 rfl (by first | exact congrArg AV.bool hfin.symm | exact congrArg AV.bool (by rw [hinv0.2, List.drop_eq_nil_of_le hge]; rfl)))
theorem AG6 (s : Str) (hs : s.length ≤ 4611686018427387904) : FSpec Tryz.prog 112 [AV.str s] (AV.bool (goodKey s)) := by
 refine C1 Tryz.func112 rfl Tryz.ntmps112 rfl ?_
 refine A3 (A2 ?_)
 refine A1 rfl (A8 rfl D8) ?_
 refine A4 (A3 (A2 ?_))
 refine A5 rfl ?_
 refine A1 rfl (T8 rfl H6 (A0 rfl)) ?_
 refine A1 rfl (D4 rfl Tryz.call82 rfl (Q6 _ _ _) (A9 (A0 rfl) (A9 B3 (A9 B3 C6)))) ?_
 refine A5 rfl ?_
 refine C4 rfl (fun hc => C3 rfl (A0 rfl)) ?_
 refine C4 rfl (fun hc => D4 rfl Tryz.call166 rfl (AC5 _ _ (by omega)) (A9 (A7 rfl hc) (A9 (f5 (l := [46, 47]) rfl) C6))) ?_
 refine A1 rfl (G4 rfl (A0 rfl) (E9 rfl)) ?_
 refine B5 rfl ?_
 refine A4 ?_
 refine B7 ?_
 exact D7 rfl (B6 rfl (by first | rfl | (refine congrArg AV.bool ?_; simp_all; done)))
theorem AG7 (s : Str) (hs : s.length ≤ 4611686018427387904) : FSpec Tryz.prog 167 [AV.str s] (AV.bool (goodVal s)) := by
 refine C1 Tryz.func167 rfl Tryz.ntmps167 rfl ?_
 refine A3 (A2 ?_)
 refine A1 rfl (A8 rfl D8) ?_
 refine A4 (A3 (A2 ?_))
 refine A5 rfl ?_
 refine A1 rfl (T8 rfl H6 (A0 rfl)) ?_
 refine A1 rfl (O6 rfl (A0 rfl) B3) ?_
 refine A5 rfl ?_
 refine C4 rfl (fun hc => C3 rfl (A0 rfl)) ?_
 refine C4 rfl (fun hc => D4 rfl Tryz.call166 rfl (AC5 _ _ (by omega)) (A9 (A7 rfl hc) (A9 (f5 (l := [46, 45, 44, 95]) rfl) C6))) ?_
 refine A1 rfl (G4 rfl (A0 rfl) (E9 rfl)) ?_
 refine B5 rfl ?_
 refine A4 ?_
 refine B7 ?_
 exact D7 rfl (B6 rfl (by first | rfl | (refine congrArg AV.bool ?_; simp_all; done)))
theorem i9 (s : Str) (hs : s.length ≤ 4611686018427387904) : FSpec Tryz.prog 198 [AV.str s] (AV.bool (l3Key s)) := by
 refine C1 Tryz.func198 rfl Tryz.ntmps198 rfl ?_
 refine A3 (A2 ?_)
 refine A1 rfl (A8 rfl D8) ?_
 refine A4 (A3 (A2 ?_))
 refine A5 rfl ?_
 refine A1 rfl (T8 rfl H6 (A0 rfl)) ?_
 refine A1 rfl (D4 rfl Tryz.call39 rfl (P7 _ _ _) (A9 (A0 rfl) (A9 B3 (A9 B3 C6)))) ?_
 refine A5 rfl ?_
 refine C4 rfl (fun hc => C3 rfl (A0 rfl)) ?_
 refine C4 rfl (fun hc => D4 rfl Tryz.call223 rfl (m7 _ _ (by omega) (by decide)) (A9 (A7 rfl hc) (A9 (f5 (l := [46, 47]) rfl) C6))) ?_
 refine A1 rfl (G4 rfl (A0 rfl) (E9 rfl)) ?_
 refine B5 rfl ?_
 refine A4 ?_
 refine B7 ?_
 exact D7 rfl (B6 rfl (by first | rfl | (refine congrArg AV.bool ?_; simp_all; done)))
end Go.Proofs.YtkegepoihkhihaaGreat

namespace Go.Proofs.YtkegepoihkhihaaGreat
open Go Go.AV Go.M
attribute [local irreducible] OpW OpA OpS AWP FSpec ESpec RetOk RvDen Le Ev GuardIs
theorem l0 (l : List TWrite) (pre : TWrite → Prop) (f : TWrite → Bool) (hp : ∀ x ∈ l, pre x) : FSpec Tryz.prog 188 [AV.list 3 (l.map TWrite.cs), AV.fun1 Tryz.prog pre (fun a => AV.agg a.cs) (fun a => AV.bool (f a))] (AV.int (idxFrom f l 0)) := by
 refine C1 Tryz.func188 rfl Tryz.ntmps188 rfl ?_
 refine J7 (t := 0) rfl fun hl => ?_
 try simp only [A6] at hl
 refine A3 (A2 ?_)
 refine A1 rfl (A8 rfl B3) ?_
 refine A4 (A3 (A3 (A2 ?_)))
 refine A5 rfl ?_
 refine A1 rfl (E4 rfl E6 (A0 rfl)) ?_
 refine A1 rfl (C3 rfl B3) ?_
 refine A4 (C5 ?_)
 refine G0 [(0, _), (1, _), (7, _)] _ (fun (i : Nat) => i ≤ l.length ∧ idxFrom f l 0 = idxFrom f (l.drop i) i) (fun (i : Nat) => []) (fun (i : Nat) => [(8, AV.int i)]) (fun (i : Nat) => l.length - i) (0) ?_ (G1 ⟨rfl, rfl, rfl, rfl, trivial⟩) ?_
 ·exact ⟨Nat.zero_le _, rfl⟩
 intro i hinv
 refine A3 (A2 ?_)
 refine A1 rfl (F8 rfl (A0 rfl) (A0 rfl)) ?_
 refine A4 (A3 ?_)
 refine B8 (A0 rfl) ?_ ?_
 ·intro h9
  have k9 := of_decide_eq_true h9; try simp only [A6] at k9
  have hlt : i < l.length := by omega
  obtain ⟨x, hx⟩ := get_some hlt
  refine B9 (A3 (C5 (A3 (A2 ?_))))
  refine A5 rfl ?_
  refine B5 rfl ?_
  refine A4 (A3 (A2 ?_))
  refine A5 rfl ?_
  refine A5 rfl ?_
  refine A5 rfl ?_
  refine A1 rfl (H8 rfl E6 F7 (A0 rfl) (A0 rfl) hx (by first | omega | (simp only [D1, B1, szR] at *; omega))) ?_
  refine A1 rfl (G8 rfl (A0 rfl) L5 F7) ?_
  refine A1 rfl (q7 rfl (A0 rfl) x (hp x (H0 hx)) (A0 rfl)) ?_
  refine A4 ?_
  refine B8 (A0 rfl) ?_ ?_
  ·intro h16
   refine A3 (A2 ?_)
   refine A5 rfl ?_
   refine B5 rfl ?_
   refine A4 ?_
   refine B7 ?_
   exact D7 rfl (B6 rfl (by first | exact congrArg AV.int (by rw [hinv.2, drop_some hx, idxFrom, h16]; rfl) | exact congrArg AV.int (by rw [hinv.2, List.drop_eq_nil_of_le hge]; rfl)))
  intro h16
  refine B9 (A2 ?_)
  refine A1 rfl (G6 rfl (A0 rfl) B3 (by first | omega | (simp only [D1, B1, szR] at *; omega))) ?_
  refine A5 rfl ?_
  refine A4 ?_
  refine G9 i (i + 1) ?_ ?_ (G1 ⟨rfl, rfl, rfl, rfl, trivial⟩)
  ·exact ⟨by omega, by rw [hinv.2, drop_some hx, idxFrom, h16]; simp⟩
  omega
 intro h9
 have k9 := of_decide_eq_false h9; try simp only [A6] at k9
 have hge : l.length ≤ i := by omega
 refine F3 ?_
 refine A3 (A2 ?_)
 refine A1 rfl (A8 rfl B3) ?_
 refine A4 ?_
 refine B7 ?_
 exact D7 rfl (B6 rfl (by first | exact congrArg AV.int (by rw [hinv.2, drop_some hx, idxFrom, h16]; rfl) | exact congrArg AV.int (by rw [hinv.2, List.drop_eq_nil_of_le hge]; rfl)))
theorem S4 (l : List TWrite) (pre : TWrite → Prop) (f : TWrite → Bool) (hp : ∀ x ∈ l, pre x) : FSpec Tryz.prog 141 [AV.list 3 (l.map TWrite.cs), AV.fun1 Tryz.prog pre (fun a => AV.agg a.cs) (fun a => AV.bool (f a))] (AV.bool (l.any f)) := by
 refine C1 Tryz.func141 rfl Tryz.ntmps141 rfl ?_
 refine A3 (A2 ?_)
 refine A1 rfl (A8 rfl D8) ?_
 refine A4 (A3 (A2 ?_))
 refine A5 rfl ?_
 refine A5 rfl ?_
 refine A1 rfl (D4 rfl Tryz.call188 rfl (l0 _ _ _ (by first | (intros; trivial) | assumption | (intros; first | trivial | (simp_all; done)))) (A9 (A0 rfl) (A9 (A0 rfl) C6))) ?_
 refine A1 rfl (R8 rfl (A0 rfl) B3) ?_
 refine B5 rfl ?_
 refine A4 ?_
 refine B7 ?_
 exact D7 rfl (B6 rfl (by exact congrArg AV.bool (W0 f l 0 (Int.le_refl 0))))
theorem m8 (l : List THeld) (pre : THeld → Prop) (f : THeld → Bool) (hp : ∀ x ∈ l, pre x) : FSpec Tryz.prog 186 [AV.list 5 (l.map THeld.cs), AV.fun1 Tryz.prog pre (fun a => AV.agg a.cs) (fun a => AV.bool (f a))] (AV.int (idxFrom f l 0)) := by
 refine C1 Tryz.func186 rfl Tryz.ntmps186 rfl ?_
 refine J7 (t := 0) rfl fun hl => ?_
 try simp only [A6] at hl
 refine A3 (A2 ?_)
 refine A1 rfl (A8 rfl B3) ?_
 refine A4 (A3 (A3 (A2 ?_)))
 refine A5 rfl ?_
 refine A1 rfl (E4 rfl F0 (A0 rfl)) ?_
 refine A1 rfl (C3 rfl B3) ?_
 refine A4 (C5 ?_)
 refine G0 [(0, _), (1, _), (7, _)] _ (fun (i : Nat) => i ≤ l.length ∧ idxFrom f l 0 = idxFrom f (l.drop i) i) (fun (i : Nat) => []) (fun (i : Nat) => [(8, AV.int i)]) (fun (i : Nat) => l.length - i) (0) ?_ (G1 ⟨rfl, rfl, rfl, rfl, trivial⟩) ?_
 ·exact ⟨Nat.zero_le _, rfl⟩
 intro i hinv
 refine A3 (A2 ?_)
 refine A1 rfl (F8 rfl (A0 rfl) (A0 rfl)) ?_
 refine A4 (A3 ?_)
 refine B8 (A0 rfl) ?_ ?_
 ·intro h9
  have k9 := of_decide_eq_true h9; try simp only [A6] at k9
  have hlt : i < l.length := by omega
  obtain ⟨x, hx⟩ := get_some hlt
  refine B9 (A3 (C5 (A3 (A2 ?_))))
  refine A5 rfl ?_
  refine B5 rfl ?_
  refine A4 (A3 (A2 ?_))
  refine A5 rfl ?_
  refine A5 rfl ?_
  refine A5 rfl ?_
  refine A1 rfl (H8 rfl F0 E3 (A0 rfl) (A0 rfl) hx (by first | omega | (simp only [D1, B1, szR] at *; omega))) ?_
  refine A1 rfl (G8 rfl (A0 rfl) I5 E3) ?_
  refine A1 rfl (q7 rfl (A0 rfl) x (hp x (H0 hx)) (A0 rfl)) ?_
  refine A4 ?_
  refine B8 (A0 rfl) ?_ ?_
  ·intro h16
   refine A3 (A2 ?_)
   refine A5 rfl ?_
   refine B5 rfl ?_
   refine A4 ?_
   refine B7 ?_
   exact D7 rfl (B6 rfl (by first | exact congrArg AV.int (by rw [hinv.2, drop_some hx, idxFrom, h16]; rfl) | exact congrArg AV.int (by rw [hinv.2, List.drop_eq_nil_of_le hge]; rfl)))
  intro h16
  refine B9 (A2 ?_)
  refine A1 rfl (G6 rfl (A0 rfl) B3 (by first | omega | (simp only [D1, B1, szR] at *; omega))) ?_
  refine A5 rfl ?_
  refine A4 ?_
  refine G9 i (i + 1) ?_ ?_ (G1 ⟨rfl, rfl, rfl, rfl, trivial⟩)
  ·exact ⟨by omega, by rw [hinv.2, drop_some hx, idxFrom, h16]; simp⟩
  omega
 intro h9
 have k9 := of_decide_eq_false h9; try simp only [A6] at k9
 have hge : l.length ≤ i := by omega
 refine F3 ?_
 refine A3 (A2 ?_)
 refine A1 rfl (A8 rfl B3) ?_
 refine A4 ?_
 refine B7 ?_
 exact D7 rfl (B6 rfl (by first | exact congrArg AV.int (by rw [hinv.2, drop_some hx, idxFrom, h16]; rfl) | exact congrArg AV.int (by rw [hinv.2, List.drop_eq_nil_of_le hge]; rfl)))
theorem f9 (l : List THeld) (pre : THeld → Prop) (f : THeld → Bool) (hp : ∀ x ∈ l, pre x) : FSpec Tryz.prog 138 [AV.list 5 (l.map THeld.cs), AV.fun1 Tryz.prog pre (fun a => AV.agg a.cs) (fun a => AV.bool (f a))] (AV.bool (l.any f)) := by
 refine C1 Tryz.func138 rfl Tryz.ntmps138 rfl ?_
 refine A3 (A2 ?_)
 refine A1 rfl (A8 rfl D8) ?_
 refine A4 (A3 (A2 ?_))
 refine A5 rfl ?_
 refine A5 rfl ?_
 refine A1 rfl (D4 rfl Tryz.call186 rfl (m8 _ _ _ (by first | (intros; trivial) | assumption | (intros; first | trivial | (simp_all; done)))) (A9 (A0 rfl) (A9 (A0 rfl) C6))) ?_
 refine A1 rfl (R8 rfl (A0 rfl) B3) ?_
 refine B5 rfl ?_
 refine A4 ?_
 refine B7 ?_
 exact D7 rfl (B6 rfl (by exact congrArg AV.bool (W0 f l 0 (Int.le_refl 0))))
theorem l4 (l : List TState) (pre : TState → Prop) (f : TState → Bool) (hp : ∀ x ∈ l, pre x) : FSpec Tryz.prog 129 [AV.list 4 (l.map TState.cs), AV.fun1 Tryz.prog pre (fun a => AV.agg a.cs) (fun a => AV.bool (f a))] (AV.int (idxFrom f l 0)) := by
 refine C1 Tryz.func129 rfl Tryz.ntmps129 rfl ?_
 refine J7 (t := 0) rfl fun hl => ?_
 try simp only [A6] at hl
 refine A3 (A2 ?_)
 refine A1 rfl (A8 rfl B3) ?_
 refine A4 (A3 (A3 (A2 ?_)))
 refine A5 rfl ?_
 refine A1 rfl (E4 rfl J0 (A0 rfl)) ?_
 refine A1 rfl (C3 rfl B3) ?_
 refine A4 (C5 ?_)
 refine G0 [(0, _), (1, _), (7, _)] _ (fun (i : Nat) => i ≤ l.length ∧ idxFrom f l 0 = idxFrom f (l.drop i) i) (fun (i : Nat) => []) (fun (i : Nat) => [(8, AV.int i)]) (fun (i : Nat) => l.length - i) (0) ?_ (G1 ⟨rfl, rfl, rfl, rfl, trivial⟩) ?_
 ·exact ⟨Nat.zero_le _, rfl⟩
 intro i hinv
 refine A3 (A2 ?_)
 refine A1 rfl (F8 rfl (A0 rfl) (A0 rfl)) ?_
 refine A4 (A3 ?_)
 refine B8 (A0 rfl) ?_ ?_
 ·intro h9
  have k9 := of_decide_eq_true h9; try simp only [A6] at k9
  have hlt : i < l.length := by omega
  obtain ⟨x, hx⟩ := get_some hlt
  refine B9 (A3 (C5 (A3 (A2 ?_))))
  refine A5 rfl ?_
  refine B5 rfl ?_
  refine A4 (A3 (A2 ?_))
  refine A5 rfl ?_
  refine A5 rfl ?_
  refine A5 rfl ?_
  refine A1 rfl (H8 rfl J0 I1 (A0 rfl) (A0 rfl) hx (by first | omega | (simp only [D1, B1, szR] at *; omega))) ?_
  refine A1 rfl (G8 rfl (A0 rfl) L0 I1) ?_
  refine A1 rfl (q7 rfl (A0 rfl) x (hp x (H0 hx)) (A0 rfl)) ?_
  refine A4 ?_
  refine B8 (A0 rfl) ?_ ?_
  ·intro h16
   refine A3 (A2 ?_)
   refine A5 rfl ?_
   refine B5 rfl ?_
   refine A4 ?_
   refine B7 ?_
   exact D7 rfl (B6 rfl (by first | exact congrArg AV.int (by rw [hinv.2, drop_some hx, idxFrom, h16]; rfl) | exact congrArg AV.int (by rw [hinv.2, List.drop_eq_nil_of_le hge]; rfl)))
  intro h16
  refine B9 (A2 ?_)
  refine A1 rfl (G6 rfl (A0 rfl) B3 (by first | omega | (simp only [D1, B1, szR] at *; omega))) ?_
  refine A5 rfl ?_
  refine A4 ?_
  refine G9 i (i + 1) ?_ ?_ (G1 ⟨rfl, rfl, rfl, rfl, trivial⟩)
  ·exact ⟨by omega, by rw [hinv.2, drop_some hx, idxFrom, h16]; simp⟩
  omega
 intro h9
 have k9 := of_decide_eq_false h9; try simp only [A6] at k9
 have hge : l.length ≤ i := by omega
 refine F3 ?_
 refine A3 (A2 ?_)
 refine A1 rfl (A8 rfl B3) ?_
 refine A4 ?_
 refine B7 ?_
 exact D7 rfl (B6 rfl (by first | exact congrArg AV.int (by rw [hinv.2, drop_some hx, idxFrom, h16]; rfl) | exact congrArg AV.int (by rw [hinv.2, List.drop_eq_nil_of_le hge]; rfl)))
theorem f1 (l : List TState) (pre : TState → Prop) (f : TState → Bool) (hp : ∀ x ∈ l, pre x) : FSpec Tryz.prog 83 [AV.list 4 (l.map TState.cs), AV.fun1 Tryz.prog pre (fun a => AV.agg a.cs) (fun a => AV.bool (f a))] (AV.bool (l.any f)) := by
 refine C1 Tryz.func83 rfl Tryz.ntmps83 rfl ?_
 refine A3 (A2 ?_)
 refine A1 rfl (A8 rfl D8) ?_
 refine A4 (A3 (A2 ?_))
 refine A5 rfl ?_
 refine A5 rfl ?_
 refine A1 rfl (D4 rfl Tryz.call129 rfl (l4 _ _ _ (by first | (intros; trivial) | assumption | (intros; first | trivial | (simp_all; done)))) (A9 (A0 rfl) (A9 (A0 rfl) C6))) ?_
 refine A1 rfl (R8 rfl (A0 rfl) B3) ?_
 refine B5 rfl ?_
 refine A4 ?_
 refine B7 ?_
 exact D7 rfl (B6 rfl (by exact congrArg AV.bool (W0 f l 0 (Int.le_refl 0))))
theorem f2 (l : List TWrite) (v : Str) (pre : TWrite → Str → Prop) (hp : ∀ x ∈ l, pre x v) (f : TWrite → Str → Int) (hl2 : l.length ≤ 4611686018427387903) : FSpec Tryz.prog 229 [AV.list 3 (l.map TWrite.cs), AV.str v, AV.fun2 Tryz.prog pre (fun a => AV.agg a.cs) (fun b => AV.str b) (fun a b => AV.int (f a b))] (AV.tup [AV.int (bs (fun x => f x v) l 0 l.length), AV.bool (bsAt (fun x => f x v) l (bs (fun x => f x v) l 0 l.length))]) := by
 refine C1 Tryz.func229 rfl Tryz.ntmps229 rfl ?_
 refine J7 (t := 0) rfl fun hl => ?_
 try simp only [A6] at hl
 refine A3 (A2 ?_)
 refine A1 rfl (A8 rfl B3) ?_
 refine A1 rfl (A8 rfl D8) ?_
 refine A4 (A3 (A2 ?_))
 refine A5 rfl ?_
 refine A1 rfl (E4 rfl E6 (A0 rfl)) ?_
 refine B5 rfl ?_
 refine A4 (A3 (A2 ?_))
 refine A5 rfl ?_
 refine A1 rfl (A8 rfl B3) ?_
 refine B5 rfl ?_
 refine A4 (A3 (C5 ?_))
 refine M3 [(0, _), (1, _), (2, _), (6, _), (7, _), (8, _)] _ (fun (i : Nat) (j : Nat) => i ≤ j ∧ j ≤ l.length ∧ bs (fun x => f x v) l 0 l.length = bs (fun x => f x v) l i j) (fun (i : Nat) (j : Nat) => []) (fun (i : Nat) (j : Nat) => [(9, AV.int i), (10, AV.int j)]) (fun (i : Nat) (j : Nat) => j - i) (0) ((l.map TWrite.cs).length) ?_ (G1 ⟨rfl, rfl, rfl, rfl, rfl, rfl, rfl, rfl, trivial⟩) ?_
 ·exact ⟨Nat.zero_le _, by simp, by simp⟩
 intro i j hinv
 refine A3 (A3 (A2 ?_))
 refine A5 rfl ?_
 refine A5 rfl ?_
 refine A1 rfl (F8 rfl (A0 rfl) (A0 rfl)) ?_
 refine A4 ?_
 refine B8 (A0 rfl) ?_ ?_
 ·intro h17
  have k17 := of_decide_eq_true h17; try simp only [A6] at k17
  have hlt : i < j := by omega
  obtain ⟨x, hx⟩ := get_some (show (i + j) / 2 < l.length by omega)
  refine B9 (C5 (A3 (A2 ?_)))
  refine A5 rfl ?_
  refine A5 rfl ?_
  refine A1 rfl (G6 rfl (A0 rfl) (A0 rfl) (by omega)) ?_
  refine A1 rfl (f6 rfl (by kernel_rfl) Tryz.underlying158 (A0 rfl)) ?_
  refine A1 rfl (w_shr rfl (A0 rfl) B3 (by decide) (by decide)) ?_
  refine A1 rfl (f6 rfl (by kernel_rfl) Tryz.underlying3 (A0 rfl)) ?_
  refine B5 rfl ?_
  refine A4 (A3 (A2 ?_))
  rw [y5 (by omega)]
  refine A5 rfl ?_
  refine A5 rfl ?_
  refine A5 rfl ?_
  refine A1 rfl (H8 rfl E6 F7 (A0 rfl) (A0 rfl) hx (by first | omega | (simp only [D1, B1, szR] at *; omega))) ?_
  refine A1 rfl (G8 rfl (A0 rfl) L5 F7) ?_
  refine A5 rfl ?_
  refine A1 rfl (X4 rfl (A0 rfl) x v (hp x (H0 hx)) (A0 rfl) (A0 rfl)) ?_
  refine A1 rfl (F8 rfl (A0 rfl) B3) ?_
  refine A4 ?_
  refine B8 (A0 rfl) ?_ ?_
  ·intro h31
   have k31 := of_decide_eq_true h31; try simp only [A6] at k31
   refine A2 ?_
   refine A5 rfl ?_
   refine A1 rfl (G6 rfl (A0 rfl) B3 (by first | omega | (simp only [D1, B1, szR] at *; omega))) ?_
   refine B5 rfl ?_
   refine A4 ?_
   refine c1 ?_
   refine L8 i j ((i + j) / 2 + 1) (j) ?_ ?_ (G1 ⟨rfl, rfl, rfl, rfl, rfl, rfl, rfl, rfl, trivial⟩)
   ·exact ⟨by omega, by omega, by rw [hinv.2.2, AF2 hlt hx k31]⟩
   omega
  intro h31
  have k31 := of_decide_eq_false h31; try simp only [A6] at k31
  refine A2 ?_
  refine A5 rfl ?_
  refine B5 rfl ?_
  refine A4 ?_
  refine c1 ?_
  refine L8 i j (i) ((i + j) / 2) ?_ ?_ (G1 ⟨rfl, rfl, rfl, rfl, rfl, rfl, rfl, rfl, trivial⟩)
  ·exact ⟨by omega, by omega, by rw [hinv.2.2, AF3 hlt hx k31]⟩
  omega
 intro h17
 have k17 := of_decide_eq_false h17; try simp only [A6] at k17
 have hge : bs (fun x => f x v) l 0 l.length = i := by rw [hinv.2.2, t2 (by omega)]
 obtain ⟨y, hy⟩ := n9 l i
 refine F3 ?_
 refine A3 (A2 ?_)
 refine A5 rfl ?_
 refine A5 rfl ?_
 refine A5 rfl ?_
 refine A1 rfl (F8 rfl (A0 rfl) (A0 rfl)) ?_
 refine A5 rfl ?_
 refine C4 rfl (fun hc => C3 rfl (A0 rfl)) ?_
 refine C4 rfl (fun hc => C3 rfl (A0 rfl)) ?_
 refine C4 rfl (fun hc => C3 rfl (A0 rfl)) ?_
 refine C4 rfl (fun hc => H8 rfl E6 F7 (A7 rfl hc) (A7 rfl hc) (hy (by first | omega | ((try simp only [D1, B1, szR] at *); omega) | (have hc2 := hc; simp only [L4, beq_iff_eq, bne_iff_ne, A6, G2] at hc2; omega))) rfl) ?_
 refine C4 rfl (fun hc => G8 rfl (A7 rfl hc) L5 F7) ?_
 refine C4 rfl (fun hc => C3 rfl (A0 rfl)) ?_
 refine C4 rfl (fun hc => X4 rfl (A7 rfl hc) y v (hp y (H0 (hy (by first | omega | ((try simp only [D1, B1, szR] at *); omega) | (have hc2 := hc; simp only [L4, beq_iff_eq, bne_iff_ne, A6, G2] at hc2; omega))))) (A7 rfl hc) (A7 rfl hc)) ?_
 refine C4 rfl (fun hc => N1 rfl (A7 rfl hc) B3) ?_
 refine A1 rfl (G4 rfl (A0 rfl) (E9 rfl)) ?_
 refine B5 rfl ?_
 refine B5 rfl ?_
 refine A4 ?_
 refine B7 ?_
 exact W1 rfl (by decide) (K5 (B6 rfl (by first | exact congrArg AV.int (by rw [hge]) | exact congrArg AV.bool (by rw [hge]; unfold bsAt; simp only [A6]; cases Nat.lt_or_ge i l.length with | inl hi => (rw [hy hi]; simp [hi]) | inr hi => (rw [List.getElem?_eq_none (by omega)]; simp only [decide_eq_false (show ¬ ((i : Int) < (l.length : Int)) by omega), Bool.false_and])))) (K5 (B6 rfl (by first | exact congrArg AV.int (by rw [hge]) | exact congrArg AV.bool (by rw [hge]; unfold bsAt; simp only [A6]; cases Nat.lt_or_ge i l.length with | inl hi => (rw [hy hi]; simp [hi]) | inr hi => (rw [List.getElem?_eq_none (by omega)]; simp only [decide_eq_false (show ¬ ((i : Int) < (l.length : Int)) by omega), Bool.false_and])))) Q9))
theorem g6 (l : List TCell) (v : Str) (pre : TCell → Str → Prop) (hp : ∀ x ∈ l, pre x v) (f : TCell → Str → Int) (hl2 : l.length ≤ 4611686018427387903) : FSpec Tryz.prog 172 [AV.list 2 (l.map TCell.cs), AV.str v, AV.fun2 Tryz.prog pre (fun a => AV.agg a.cs) (fun b => AV.str b) (fun a b => AV.int (f a b))] (AV.tup [AV.int (bs (fun x => f x v) l 0 l.length), AV.bool (bsAt (fun x => f x v) l (bs (fun x => f x v) l 0 l.length))]) := by
 refine C1 Tryz.func172 rfl Tryz.ntmps172 rfl ?_
 refine J7 (t := 0) rfl fun hl => ?_
 try simp only [A6] at hl
 refine A3 (A2 ?_)
 refine A1 rfl (A8 rfl B3) ?_
 refine A1 rfl (A8 rfl D8) ?_
 refine A4 (A3 (A2 ?_))
 refine A5 rfl ?_
 refine A1 rfl (E4 rfl F1 (A0 rfl)) ?_
 refine B5 rfl ?_
 refine A4 (A3 (A2 ?_))
 refine A5 rfl ?_
 refine A1 rfl (A8 rfl B3) ?_
 refine B5 rfl ?_
 refine A4 (A3 (C5 ?_))
 refine M3 [(0, _), (1, _), (2, _), (6, _), (7, _), (8, _)] _ (fun (i : Nat) (j : Nat) => i ≤ j ∧ j ≤ l.length ∧ bs (fun x => f x v) l 0 l.length = bs (fun x => f x v) l i j) (fun (i : Nat) (j : Nat) => []) (fun (i : Nat) (j : Nat) => [(9, AV.int i), (10, AV.int j)]) (fun (i : Nat) (j : Nat) => j - i) (0) ((l.map TCell.cs).length) ?_ (G1 ⟨rfl, rfl, rfl, rfl, rfl, rfl, rfl, rfl, trivial⟩) ?_
 ·exact ⟨Nat.zero_le _, by simp, by simp⟩
 intro i j hinv
 refine A3 (A3 (A2 ?_))
 refine A5 rfl ?_
 refine A5 rfl ?_
 refine A1 rfl (F8 rfl (A0 rfl) (A0 rfl)) ?_
 refine A4 ?_
 refine B8 (A0 rfl) ?_ ?_
 ·intro h17
  have k17 := of_decide_eq_true h17; try simp only [A6] at k17
  have hlt : i < j := by omega
  obtain ⟨x, hx⟩ := get_some (show (i + j) / 2 < l.length by omega)
  refine B9 (C5 (A3 (A2 ?_)))
  refine A5 rfl ?_
  refine A5 rfl ?_
  refine A1 rfl (G6 rfl (A0 rfl) (A0 rfl) (by omega)) ?_
  refine A1 rfl (f6 rfl (by kernel_rfl) Tryz.underlying158 (A0 rfl)) ?_
  refine A1 rfl (w_shr rfl (A0 rfl) B3 (by decide) (by decide)) ?_
  refine A1 rfl (f6 rfl (by kernel_rfl) Tryz.underlying3 (A0 rfl)) ?_
  refine B5 rfl ?_
  refine A4 (A3 (A2 ?_))
  rw [y5 (by omega)]
  refine A5 rfl ?_
  refine A5 rfl ?_
  refine A5 rfl ?_
  refine A1 rfl (H8 rfl F1 E8 (A0 rfl) (A0 rfl) hx (by first | omega | (simp only [D1, B1, szR] at *; omega))) ?_
  refine A1 rfl (G8 rfl (A0 rfl) L2 E8) ?_
  refine A5 rfl ?_
  refine A1 rfl (X4 rfl (A0 rfl) x v (hp x (H0 hx)) (A0 rfl) (A0 rfl)) ?_
  refine A1 rfl (F8 rfl (A0 rfl) B3) ?_
  refine A4 ?_
  refine B8 (A0 rfl) ?_ ?_
  ·intro h31
   have k31 := of_decide_eq_true h31; try simp only [A6] at k31
   refine A2 ?_
   refine A5 rfl ?_
   refine A1 rfl (G6 rfl (A0 rfl) B3 (by first | omega | (simp only [D1, B1, szR] at *; omega))) ?_
   refine B5 rfl ?_
   refine A4 ?_
   refine c1 ?_
   refine L8 i j ((i + j) / 2 + 1) (j) ?_ ?_ (G1 ⟨rfl, rfl, rfl, rfl, rfl, rfl, rfl, rfl, trivial⟩)
   ·exact ⟨by omega, by omega, by rw [hinv.2.2, AF2 hlt hx k31]⟩
   omega
  intro h31
  have k31 := of_decide_eq_false h31; try simp only [A6] at k31
  refine A2 ?_
  refine A5 rfl ?_
  refine B5 rfl ?_
  refine A4 ?_
  refine c1 ?_
  refine L8 i j (i) ((i + j) / 2) ?_ ?_ (G1 ⟨rfl, rfl, rfl, rfl, rfl, rfl, rfl, rfl, trivial⟩)
  ·exact ⟨by omega, by omega, by rw [hinv.2.2, AF3 hlt hx k31]⟩
  omega
 intro h17
 have k17 := of_decide_eq_false h17; try simp only [A6] at k17
 have hge : bs (fun x => f x v) l 0 l.length = i := by rw [hinv.2.2, t2 (by omega)]
 obtain ⟨y, hy⟩ := n9 l i
 refine F3 ?_
 refine A3 (A2 ?_)
 refine A5 rfl ?_
 refine A5 rfl ?_
 refine A5 rfl ?_
 refine A1 rfl (F8 rfl (A0 rfl) (A0 rfl)) ?_
 refine A5 rfl ?_
 refine C4 rfl (fun hc => C3 rfl (A0 rfl)) ?_
 refine C4 rfl (fun hc => C3 rfl (A0 rfl)) ?_
 refine C4 rfl (fun hc => C3 rfl (A0 rfl)) ?_
 refine C4 rfl (fun hc => H8 rfl F1 E8 (A7 rfl hc) (A7 rfl hc) (hy (by first | omega | ((try simp only [D1, B1, szR] at *); omega) | (have hc2 := hc; simp only [L4, beq_iff_eq, bne_iff_ne, A6, G2] at hc2; omega))) rfl) ?_
 refine C4 rfl (fun hc => G8 rfl (A7 rfl hc) L2 E8) ?_
 refine C4 rfl (fun hc => C3 rfl (A0 rfl)) ?_
 refine C4 rfl (fun hc => X4 rfl (A7 rfl hc) y v (hp y (H0 (hy (by first | omega | ((try simp only [D1, B1, szR] at *); omega) | (have hc2 := hc; simp only [L4, beq_iff_eq, bne_iff_ne, A6, G2] at hc2; omega))))) (A7 rfl hc) (A7 rfl hc)) ?_
 refine C4 rfl (fun hc => N1 rfl (A7 rfl hc) B3) ?_
 refine A1 rfl (G4 rfl (A0 rfl) (E9 rfl)) ?_
 refine B5 rfl ?_
 refine B5 rfl ?_
 refine A4 ?_
 refine B7 ?_
 exact W1 rfl (by decide) (K5 (B6 rfl (by first | exact congrArg AV.int (by rw [hge]) | exact congrArg AV.bool (by rw [hge]; unfold bsAt; simp only [A6]; cases Nat.lt_or_ge i l.length with | inl hi => (rw [hy hi]; simp [hi]) | inr hi => (rw [List.getElem?_eq_none (by omega)]; simp only [decide_eq_false (show ¬ ((i : Int) < (l.length : Int)) by omega), Bool.false_and])))) (K5 (B6 rfl (by first | exact congrArg AV.int (by rw [hge]) | exact congrArg AV.bool (by rw [hge]; unfold bsAt; simp only [A6]; cases Nat.lt_or_ge i l.length with | inl hi => (rw [hy hi]; simp [hi]) | inr hi => (rw [List.getElem?_eq_none (by omega)]; simp only [decide_eq_false (show ¬ ((i : Int) < (l.length : Int)) by omega), Bool.false_and])))) Q9))
theorem g7 (l : List THeld) (v : Int) (pre : THeld → Int → Prop) (hp : ∀ x ∈ l, pre x v) (f : THeld → Int → Int) (hl2 : l.length ≤ 4611686018427387903) : FSpec Tryz.prog 144 [AV.list 5 (l.map THeld.cs), AV.int v, AV.fun2 Tryz.prog pre (fun a => AV.agg a.cs) (fun b => AV.int b) (fun a b => AV.int (f a b))] (AV.tup [AV.int (bs (fun x => f x v) l 0 l.length), AV.bool (bsAt (fun x => f x v) l (bs (fun x => f x v) l 0 l.length))]) := by
 refine C1 Tryz.func144 rfl Tryz.ntmps144 rfl ?_
 refine J7 (t := 0) rfl fun hl => ?_
 try simp only [A6] at hl
 refine A3 (A2 ?_)
 refine A1 rfl (A8 rfl B3) ?_
 refine A1 rfl (A8 rfl D8) ?_
 refine A4 (A3 (A2 ?_))
 refine A5 rfl ?_
 refine A1 rfl (E4 rfl F0 (A0 rfl)) ?_
 refine B5 rfl ?_
 refine A4 (A3 (A2 ?_))
 refine A5 rfl ?_
 refine A1 rfl (A8 rfl B3) ?_
 refine B5 rfl ?_
 refine A4 (A3 (C5 ?_))
 refine M3 [(0, _), (1, _), (2, _), (6, _), (7, _), (8, _)] _ (fun (i : Nat) (j : Nat) => i ≤ j ∧ j ≤ l.length ∧ bs (fun x => f x v) l 0 l.length = bs (fun x => f x v) l i j) (fun (i : Nat) (j : Nat) => []) (fun (i : Nat) (j : Nat) => [(9, AV.int i), (10, AV.int j)]) (fun (i : Nat) (j : Nat) => j - i) (0) ((l.map THeld.cs).length) ?_ (G1 ⟨rfl, rfl, rfl, rfl, rfl, rfl, rfl, rfl, trivial⟩) ?_
 ·exact ⟨Nat.zero_le _, by simp, by simp⟩
 intro i j hinv
 refine A3 (A3 (A2 ?_))
 refine A5 rfl ?_
 refine A5 rfl ?_
 refine A1 rfl (F8 rfl (A0 rfl) (A0 rfl)) ?_
 refine A4 ?_
 refine B8 (A0 rfl) ?_ ?_
 ·intro h17
  have k17 := of_decide_eq_true h17; try simp only [A6] at k17
  have hlt : i < j := by omega
  obtain ⟨x, hx⟩ := get_some (show (i + j) / 2 < l.length by omega)
  refine B9 (C5 (A3 (A2 ?_)))
  refine A5 rfl ?_
  refine A5 rfl ?_
  refine A1 rfl (G6 rfl (A0 rfl) (A0 rfl) (by omega)) ?_
  refine A1 rfl (f6 rfl (by kernel_rfl) Tryz.underlying158 (A0 rfl)) ?_
  refine A1 rfl (w_shr rfl (A0 rfl) B3 (by decide) (by decide)) ?_
  refine A1 rfl (f6 rfl (by kernel_rfl) Tryz.underlying3 (A0 rfl)) ?_
  refine B5 rfl ?_
  refine A4 (A3 (A2 ?_))
  rw [y5 (by omega)]
  refine A5 rfl ?_
  refine A5 rfl ?_
  refine A5 rfl ?_
  refine A1 rfl (H8 rfl F0 E3 (A0 rfl) (A0 rfl) hx (by first | omega | (simp only [D1, B1, szR] at *; omega))) ?_
  refine A1 rfl (G8 rfl (A0 rfl) I5 E3) ?_
  refine A5 rfl ?_
  refine A1 rfl (X4 rfl (A0 rfl) x v (hp x (H0 hx)) (A0 rfl) (A0 rfl)) ?_
  refine A1 rfl (F8 rfl (A0 rfl) B3) ?_
  refine A4 ?_
  refine B8 (A0 rfl) ?_ ?_
  ·intro h31
   have k31 := of_decide_eq_true h31; try simp only [A6] at k31
   refine A2 ?_
   refine A5 rfl ?_
   refine A1 rfl (G6 rfl (A0 rfl) B3 (by first | omega | (simp only [D1, B1, szR] at *; omega))) ?_
   refine B5 rfl ?_
   refine A4 ?_
   refine c1 ?_
   refine L8 i j ((i + j) / 2 + 1) (j) ?_ ?_ (G1 ⟨rfl, rfl, rfl, rfl, rfl, rfl, rfl, rfl, trivial⟩)
   ·exact ⟨by omega, by omega, by rw [hinv.2.2, AF2 hlt hx k31]⟩
   omega
  intro h31
  have k31 := of_decide_eq_false h31; try simp only [A6] at k31
  refine A2 ?_
  refine A5 rfl ?_
  refine B5 rfl ?_
  refine A4 ?_
  refine c1 ?_
  refine L8 i j (i) ((i + j) / 2) ?_ ?_ (G1 ⟨rfl, rfl, rfl, rfl, rfl, rfl, rfl, rfl, trivial⟩)
  ·exact ⟨by omega, by omega, by rw [hinv.2.2, AF3 hlt hx k31]⟩
  omega
 intro h17
 have k17 := of_decide_eq_false h17; try simp only [A6] at k17
 have hge : bs (fun x => f x v) l 0 l.length = i := by rw [hinv.2.2, t2 (by omega)]
 obtain ⟨y, hy⟩ := n9 l i
 refine F3 ?_
 refine A3 (A2 ?_)
 refine A5 rfl ?_
 refine A5 rfl ?_
 refine A5 rfl ?_
 refine A1 rfl (F8 rfl (A0 rfl) (A0 rfl)) ?_
 refine A5 rfl ?_
 refine C4 rfl (fun hc => C3 rfl (A0 rfl)) ?_
 refine C4 rfl (fun hc => C3 rfl (A0 rfl)) ?_
 refine C4 rfl (fun hc => C3 rfl (A0 rfl)) ?_
 refine C4 rfl (fun hc => H8 rfl F0 E3 (A7 rfl hc) (A7 rfl hc) (hy (by first | omega | ((try simp only [D1, B1, szR] at *); omega) | (have hc2 := hc; simp only [L4, beq_iff_eq, bne_iff_ne, A6, G2] at hc2; omega))) rfl) ?_
 refine C4 rfl (fun hc => G8 rfl (A7 rfl hc) I5 E3) ?_
 refine C4 rfl (fun hc => C3 rfl (A0 rfl)) ?_
 refine C4 rfl (fun hc => X4 rfl (A7 rfl hc) y v (hp y (H0 (hy (by first | omega | ((try simp only [D1, B1, szR] at *); omega) | (have hc2 := hc; simp only [L4, beq_iff_eq, bne_iff_ne, A6, G2] at hc2; omega))))) (A7 rfl hc) (A7 rfl hc)) ?_
 refine C4 rfl (fun hc => N1 rfl (A7 rfl hc) B3) ?_
 refine A1 rfl (G4 rfl (A0 rfl) (E9 rfl)) ?_
 refine B5 rfl ?_
 refine B5 rfl ?_
 refine A4 ?_
 refine B7 ?_
 exact W1 rfl (by decide) (K5 (B6 rfl (by first | exact congrArg AV.int (by rw [hge]) | exact congrArg AV.bool (by rw [hge]; unfold bsAt; simp only [A6]; cases Nat.lt_or_ge i l.length with | inl hi => (rw [hy hi]; simp [hi]) | inr hi => (rw [List.getElem?_eq_none (by omega)]; simp only [decide_eq_false (show ¬ ((i : Int) < (l.length : Int)) by omega), Bool.false_and])))) (K5 (B6 rfl (by first | exact congrArg AV.int (by rw [hge]) | exact congrArg AV.bool (by rw [hge]; unfold bsAt; simp only [A6]; cases Nat.lt_or_ge i l.length with | inl hi => (rw [hy hi]; simp [hi]) | inr hi => (rw [List.getElem?_eq_none (by omega)]; simp only [decide_eq_false (show ¬ ((i : Int) < (l.length : Int)) by omega), Bool.false_and])))) Q9))
theorem r7 (l : List Str) (v : Str) : FSpec Tryz.prog 231 [strs l, AV.str v] (AV.int (idxFrom (fun x => v == x) l 0)) := by
 refine C1 Tryz.func231 rfl Tryz.ntmps231 rfl ?_
 refine J7 (t := 0) rfl fun hl => ?_
 try simp only [A6] at hl
 refine A3 (A2 ?_)
 refine A1 rfl (A8 rfl B3) ?_
 refine A4 (A3 (A3 (A2 ?_)))
 refine A5 rfl ?_
 refine A1 rfl (E4 rfl C7 (A0 rfl)) ?_
 refine A1 rfl (C3 rfl B3) ?_
 refine A4 (C5 ?_)
 refine G0 [(0, _), (1, _), (7, _)] _ (fun (i : Nat) => i ≤ l.length ∧ idxFrom (fun x => v == x) l 0 = idxFrom (fun x => v == x) (l.drop i) i) (fun (i : Nat) => []) (fun (i : Nat) => [(8, AV.int i)]) (fun (i : Nat) => l.length - i) (0) ?_ (G1 ⟨rfl, rfl, rfl, rfl, trivial⟩) ?_
 ·exact ⟨Nat.zero_le _, rfl⟩
 intro i hinv
 refine A3 (A2 ?_)
 refine A1 rfl (F8 rfl (A0 rfl) (A0 rfl)) ?_
 refine A4 (A3 ?_)
 refine B8 (A0 rfl) ?_ ?_
 ·intro h9
  have k9 := of_decide_eq_true h9; try simp only [A6] at k9
  have hlt : i < l.length := by omega
  obtain ⟨x, hx⟩ := get_some hlt
  refine B9 (A3 (C5 (A3 (A2 ?_))))
  refine A5 rfl ?_
  refine B5 rfl ?_
  refine A4 (A3 (A2 ?_))
  refine A5 rfl ?_
  refine A5 rfl ?_
  refine A5 rfl ?_
  refine A1 rfl (H8 rfl C7 D2 (A0 rfl) (A0 rfl) hx (by first | omega | (simp only [D1, B1, szR] at *; omega))) ?_
  refine A1 rfl (I9 rfl (A0 rfl) E5 rfl) ?_
  refine A1 rfl (c2 rfl (A0 rfl) (A0 rfl)) ?_
  refine A4 ?_
  refine B8 (A0 rfl) ?_ ?_
  ·intro h16
   refine A3 (A2 ?_)
   refine A5 rfl ?_
   refine B5 rfl ?_
   refine A4 ?_
   refine B7 ?_
   exact D7 rfl (B6 rfl (by first | exact congrArg AV.int (by rw [hinv.2, drop_some hx, idxFrom, h16]; rfl) | exact congrArg AV.int (by rw [hinv.2, List.drop_eq_nil_of_le hge]; rfl)))
  intro h16
  refine B9 (A2 ?_)
  refine A1 rfl (G6 rfl (A0 rfl) B3 (by first | omega | (simp only [D1, B1, szR] at *; omega))) ?_
  refine A5 rfl ?_
  refine A4 ?_
  refine G9 i (i + 1) ?_ ?_ (G1 ⟨rfl, rfl, rfl, rfl, trivial⟩)
  ·exact ⟨by omega, by rw [hinv.2, drop_some hx, idxFrom, h16]; simp⟩
  omega
 intro h9
 have k9 := of_decide_eq_false h9; try simp only [A6] at k9
 have hge : l.length ≤ i := by omega
 refine F3 ?_
 refine A3 (A2 ?_)
 refine A1 rfl (A8 rfl B3) ?_
 refine A4 ?_
 refine B7 ?_
 exact D7 rfl (B6 rfl (by first | exact congrArg AV.int (by rw [hinv.2, drop_some hx, idxFrom, h16]; rfl) | exact congrArg AV.int (by rw [hinv.2, List.drop_eq_nil_of_le hge]; rfl)))
theorem l5 (l : List Str) (v : Str) : FSpec Tryz.prog 220 [strs l, AV.str v] (AV.bool (l.any fun x => v == x)) := by
 refine C1 Tryz.func220 rfl Tryz.ntmps220 rfl ?_
 refine A3 (A2 ?_)
 refine A1 rfl (A8 rfl D8) ?_
 refine A4 (A3 (A2 ?_))
 refine A5 rfl ?_
 refine A5 rfl ?_
 refine A1 rfl (D4 rfl Tryz.call231 rfl (r7 _ _) (A9 (A0 rfl) (A9 (A0 rfl) C6))) ?_
 refine A1 rfl (R8 rfl (A0 rfl) B3) ?_
 refine B5 rfl ?_
 refine A4 ?_
 refine B7 ?_
 exact D7 rfl (B6 rfl (by exact congrArg AV.bool (W0 (fun x => v == x) l 0 (Int.le_refl 0))))
end Go.Proofs.YtkegepoihkhihaaGreat

namespace Go.Proofs.YtkegepoihkhihaaGreat
open Go Go.AV Go.M
attribute [local irreducible] OpW OpA OpS AWP FSpec ESpec RetOk RvDen Le Ev GuardIs
theorem U3 (t : Int) : FSpec Tryz.prog 111 [AV.int t] (AV.bool (isTime t)) := by
 refine C1 Tryz.func111 rfl Tryz.ntmps111 rfl ?_
 refine A3 (A2 ?_)
 refine A1 rfl (A8 rfl D8) ?_
 refine A4 (A3 (A2 ?_))
 refine A5 rfl ?_
 refine A1 rfl (D4 rfl Tryz.call82 rfl (Q6 _ _ _) (A9 (A0 rfl) (A9 B3 (A9 B3 C6)))) ?_
 refine B5 rfl ?_
 refine A4 ?_
 refine B7 ?_
 exact D7 rfl (B6 rfl (by first | rfl | (refine congrArg AV.bool ?_; simp_all; done)))
theorem j8 (s : Str) (g : Bool) (hs : s.length ≤ 4611686018427387904) : FSpec Tryz.prog 113 [AV.str s, AV.bool g] (AV.bool (isStored s g)) := by
 refine C1 Tryz.func113 rfl Tryz.ntmps113 rfl ?_
 refine A3 (A2 ?_)
 refine A1 rfl (A8 rfl D8) ?_
 refine A4 (A3 (A2 ?_))
 refine A5 rfl ?_
 refine A1 rfl (D4 rfl Tryz.call167 rfl (AG7 _ (by omega)) (A9 (A0 rfl) C6)) ?_
 refine A5 rfl ?_
 refine C4 rfl (fun hc => C3 rfl (A0 rfl)) ?_
 refine C4 rfl (fun hc => C3 rfl (A7 rfl hc)) ?_
 refine F9 rfl rfl (C9 rfl rfl rfl) (fun hc => C3 rfl (A0 rfl)) ?_
 refine F9 rfl rfl (C9 rfl rfl rfl) (fun hc => Y8 rfl (A7 rfl hc) (f5 (l := []) rfl)) ?_
 refine C4 rfl (fun hc => G4 rfl (A7 rfl hc) (K4 rfl hc)) ?_
 refine C4 rfl (fun hc => I3 rfl (A7 rfl hc)) ?_
 refine A1 rfl (G4 rfl (A0 rfl) (E9 rfl)) ?_
 refine B5 rfl ?_
 refine A4 ?_
 refine B7 ?_
 exact D7 rfl (B6 rfl (by first | rfl | (refine congrArg AV.bool ?_; simp_all; done)))
theorem AQ6 (s : Str) (hs : s.length ≤ 4611686018427387904) : FSpec Tryz.prog 207 [AV.str s] (AV.bool (l3Val s)) := by
 refine C1 Tryz.func207 rfl Tryz.ntmps207 rfl ?_
 refine A3 (A2 ?_)
 refine A1 rfl (A8 rfl D8) ?_
 refine A4 (A3 (A2 ?_))
 refine A5 rfl ?_
 refine A1 rfl (T8 rfl H6 (A0 rfl)) ?_
 refine A1 rfl (O6 rfl (A0 rfl) B3) ?_
 refine A5 rfl ?_
 refine C4 rfl (fun hc => C3 rfl (A0 rfl)) ?_
 refine C4 rfl (fun hc => D4 rfl Tryz.call223 rfl (m7 _ _ (by omega) (by decide)) (A9 (A7 rfl hc) (A9 (f5 (l := [46, 45, 44, 95]) rfl) C6))) ?_
 refine A1 rfl (G4 rfl (A0 rfl) (E9 rfl)) ?_
 refine B5 rfl ?_
 refine A4 ?_
 refine B7 ?_
 exact D7 rfl (B6 rfl (by first | rfl | (refine congrArg AV.bool ?_; simp_all; done)))
theorem m9 (k s : Str) (g : Bool) (hk : k.length ≤ 4611686018427387904) (hs : s.length ≤ 4611686018427387904) : FSpec Tryz.prog 165 [AV.str k, AV.str s, AV.bool g] (AV.bool (l3Write k s g)) := by
 refine C1 Tryz.func165 rfl Tryz.ntmps165 rfl ?_
 refine A3 (A2 ?_)
 refine A1 rfl (A8 rfl D8) ?_
 refine A4 (A3 (A2 ?_))
 refine A5 rfl ?_
 refine A1 rfl (D4 rfl Tryz.call198 rfl (i9 _ (by omega)) (A9 (A0 rfl) C6)) ?_
 refine A5 rfl ?_
 refine C4 rfl (fun hc => C3 rfl (A0 rfl)) ?_
 refine C4 rfl (fun hc => D4 rfl Tryz.call207 rfl (AQ6 _ (by omega)) (A9 (A7 rfl hc) C6)) ?_
 refine A1 rfl (G4 rfl (A0 rfl) (E9 rfl)) ?_
 refine A5 rfl ?_
 refine C4 rfl (fun hc => C3 rfl (A0 rfl)) ?_
 refine C4 rfl (fun hc => I3 rfl (A7 rfl hc)) ?_
 refine C4 rfl (fun hc => C3 rfl (A7 rfl hc)) ?_
 refine F9 rfl rfl (J4 rfl rfl rfl) (fun hc => C3 rfl (A0 rfl)) ?_
 refine F9 rfl rfl (J4 rfl rfl rfl) (fun hc => c2 rfl (A7 rfl hc) (f5 (l := []) rfl)) ?_
 refine C4 rfl (fun hc => M5 rfl (A7 rfl hc) (K4 rfl hc)) ?_
 refine A1 rfl (G4 rfl (A0 rfl) (E9 rfl)) ?_
 refine B5 rfl ?_
 refine A4 ?_
 refine B7 ?_
 exact D7 rfl (B6 rfl (by first | rfl | (refine congrArg AV.bool ?_; simp_all; done)))
theorem j9 (t : Int) : FSpec Tryz.prog 159 [AV.int t] (AV.bool false) := by
 refine C1 Tryz.func159 rfl Tryz.ntmps159 rfl ?_
 refine A3 (A2 ?_)
 refine A1 rfl (A8 rfl D8) ?_
 refine A4 (A3 (A2 ?_))
 refine A5 rfl ?_
 refine A5 rfl ?_
 refine A1 rfl (Q4 rfl (A0 rfl) (A0 rfl)) ?_
 refine B5 rfl ?_
 refine A4 ?_
 refine B7 ?_
 exact D7 rfl (B6 rfl (by exact congrArg AV.bool (by simp)))
theorem k0 (t : Str) : FSpec Tryz.prog 160 [AV.str t] (AV.bool false) := by
 refine C1 Tryz.func160 rfl Tryz.ntmps160 rfl ?_
 refine A3 (A2 ?_)
 refine A1 rfl (A8 rfl D8) ?_
 refine A4 (A3 (A2 ?_))
 refine A5 rfl ?_
 refine A5 rfl ?_
 refine A1 rfl (Y8 rfl (A0 rfl) (A0 rfl)) ?_
 refine B5 rfl ?_
 refine A4 ?_
 refine B7 ?_
 exact D7 rfl (B6 rfl (by exact congrArg AV.bool (by simp)))
theorem AK8 (x y : Int) : FSpec Tryz.prog 104 [AV.int x, AV.int y] (AV.int (cmpInt x y)) := by
 refine C1 Tryz.func104 rfl Tryz.ntmps104 rfl ?_
 refine A3 (A2 ?_)
 refine A1 rfl (A8 rfl B3) ?_
 refine A4 (A3 (A2 ?_))
 refine A5 rfl ?_
 refine A1 rfl (D4 rfl Tryz.call159 rfl (j9 _) (A9 (A0 rfl) C6)) ?_
 refine B5 rfl ?_
 refine A4 (A3 (A2 ?_))
 refine A5 rfl ?_
 refine A1 rfl (D4 rfl Tryz.call159 rfl (j9 _) (A9 (A0 rfl) C6)) ?_
 refine B5 rfl ?_
 refine A4 (A3 (A3 (A2 ?_)))
 refine A5 rfl ?_
 refine A4 ?_
 refine B8 (A0 rfl) ?_ ?_
 ·intro h11
  cases h11
 intro h11
 refine B9 (A3 (A3 (A2 ?_)))
 refine A5 rfl ?_
 refine A4 ?_
 refine B8 (A0 rfl) ?_ ?_
 ·intro h13
  cases h13
 intro h13
 refine B9 (A3 (A3 (A2 ?_)))
 refine A5 rfl ?_
 refine A5 rfl ?_
 refine A1 rfl (F8 rfl (A0 rfl) (A0 rfl)) ?_
 refine A4 ?_
 refine B8 (A0 rfl) ?_ ?_
 ·intro h16
  have k16 := of_decide_eq_true h16; try simp only [A6] at k16
  refine A3 (A2 ?_)
  refine A1 rfl (A8 rfl B3) ?_
  refine A4 ?_
  refine B7 ?_
  exact D7 rfl (B6 rfl (by exact congrArg AV.int (by unfold cmpInt; (repeat' split) <;> omega)))
 intro h16
 have k16 := of_decide_eq_false h16; try simp only [A6] at k16
 refine B9 (A3 (A3 (A2 ?_)))
 refine A5 rfl ?_
 refine A5 rfl ?_
 refine A1 rfl (P8 rfl (A0 rfl) (A0 rfl)) ?_
 refine A4 ?_
 refine B8 (A0 rfl) ?_ ?_
 ·intro h19
  have k19 := of_decide_eq_true h19; try simp only [A6] at k19
  refine A3 (A2 ?_)
  refine A1 rfl (A8 rfl B3) ?_
  refine A4 ?_
  refine B7 ?_
  exact D7 rfl (B6 rfl (by exact congrArg AV.int (by unfold cmpInt; (repeat' split) <;> omega)))
 intro h19
 have k19 := of_decide_eq_false h19; try simp only [A6] at k19
 refine B9 (A3 (A2 ?_))
 refine A1 rfl (A8 rfl B3) ?_
 refine A4 ?_
 refine B7 ?_
 exact D7 rfl (B6 rfl (by exact congrArg AV.int (by unfold cmpInt; (repeat' split) <;> omega)))
theorem o8 (x y : Str) : FSpec Tryz.prog 105 [AV.str x, AV.str y] (AV.int (cmpStr x y)) := by
 refine C1 Tryz.func105 rfl Tryz.ntmps105 rfl ?_
 refine A3 (A2 ?_)
 refine A1 rfl (A8 rfl B3) ?_
 refine A4 (A3 (A2 ?_))
 refine A5 rfl ?_
 refine A1 rfl (D4 rfl Tryz.call160 rfl (k0 _) (A9 (A0 rfl) C6)) ?_
 refine B5 rfl ?_
 refine A4 (A3 (A2 ?_))
 refine A5 rfl ?_
 refine A1 rfl (D4 rfl Tryz.call160 rfl (k0 _) (A9 (A0 rfl) C6)) ?_
 refine B5 rfl ?_
 refine A4 (A3 (A3 (A2 ?_)))
 refine A5 rfl ?_
 refine A4 ?_
 refine B8 (A0 rfl) ?_ ?_
 ·intro h11
  cases h11
 intro h11
 refine B9 (A3 (A3 (A2 ?_)))
 refine A5 rfl ?_
 refine A4 ?_
 refine B8 (A0 rfl) ?_ ?_
 ·intro h13
  cases h13
 intro h13
 refine B9 (A3 (A3 (A2 ?_)))
 refine A5 rfl ?_
 refine A5 rfl ?_
 refine A1 rfl (w_slss rfl (A0 rfl) (A0 rfl)) ?_
 refine A4 ?_
 refine B8 (A0 rfl) ?_ ?_
 ·intro h16
  refine A3 (A2 ?_)
  refine A1 rfl (A8 rfl B3) ?_
  refine A4 ?_
  refine B7 ?_
  exact D7 rfl (B6 rfl (by exact congrArg AV.int (by have := N9 y x; unfold cmpStr; simp_all)))
 intro h16
 refine B9 (A3 (A3 (A2 ?_)))
 refine A5 rfl ?_
 refine A5 rfl ?_
 refine A1 rfl (w_sgtr rfl (A0 rfl) (A0 rfl)) ?_
 refine A4 ?_
 refine B8 (A0 rfl) ?_ ?_
 ·intro h19
  refine A3 (A2 ?_)
  refine A1 rfl (A8 rfl B3) ?_
  refine A4 ?_
  refine B7 ?_
  exact D7 rfl (B6 rfl (by exact congrArg AV.int (by have := N9 y x; unfold cmpStr; simp_all)))
 intro h19
 refine B9 (A3 (A2 ?_))
 refine A1 rfl (A8 rfl B3) ?_
 refine A4 ?_
 refine B7 ?_
 exact D7 rfl (B6 rfl (by exact congrArg AV.int (by have := N9 y x; unfold cmpStr; simp_all)))
end Go.Proofs.YtkegepoihkhihaaGreat

namespace Go.Proofs.YtkegepoihkhihaaGreat
open Go Go.AV Go.M
attribute [local irreducible] OpW OpA OpS AWP FSpec ESpec RetOk RvDen Le Ev GuardIs
end Go.Proofs.YtkegepoihkhihaaGreat

namespace Go.Proofs.YtkegepoihkhihaaGreat
open Go Go.AV Go.M
attribute [local irreducible] OpW OpA OpS AWP FSpec ESpec RetOk RvDen Le Ev GuardIs
theorem AQ7 {l : List TWrite} (h : sizeL TWrite.size l ≤ 4194304) : ∀ k ∈ wKeys l, k.length ≤ 4611686018427387904 := fun k hk => by
  obtain ⟨w, hw, rfl⟩ := List.mem_map.1 hk
  have := X2 (f := TWrite.size) hw
  have h2 : w.size = w.Key.length + w.Val.length := rfl
  omega
theorem Y3 (l : List Str) (hs : ∀ k ∈ l, k.length ≤ 4611686018427387904) : FSpec Tryz.prog 119 [strs l] (AV.bool (areRising l)) := by
 refine C1 Tryz.func119 rfl Tryz.ntmps119 rfl ?_
 refine J7 (t := 0) rfl fun hl => ?_
 try simp only [A6] at hl
 refine A3 (A2 ?_)
 refine A1 rfl (A8 rfl D8) ?_
 refine A4 (A3 (A3 (A2 ?_)))
 refine A5 rfl ?_
 refine A1 rfl (E4 rfl C7 (A0 rfl)) ?_
 refine A1 rfl (C3 rfl B3) ?_
 refine A4 (C5 ?_)
 refine G0 [(0, _), (5, _), (6, _)] _ (fun (i : Nat) => i ≤ l.length ∧ areRising l = ((l.drop i).all goodKey && adj Op.bytesLess (l.drop (i - 1)))) (fun (i : Nat) => []) (fun (i : Nat) => [(7, AV.int i)]) (fun (i : Nat) => l.length - i) (0) ?_ (G1 ⟨rfl, rfl, rfl, rfl, trivial⟩) ?_
 ·exact ⟨Nat.zero_le _, rfl⟩
 intro i hinv
 refine A3 (A2 ?_)
 refine A1 rfl (F8 rfl (A0 rfl) (A0 rfl)) ?_
 refine A4 (A3 ?_)
 refine B8 (A0 rfl) ?_ ?_
 ·intro h8
  have k8 := of_decide_eq_true h8; try simp only [A6] at k8
  have hlt : i < l.length := by omega
  obtain ⟨x, hx⟩ := get_some hlt
  obtain ⟨y, hy⟩ := get_some (show i - 1 < l.length by omega)
  have hsx := hs x (H0 hx)
  refine B9 (A3 (C5 (A3 (A2 ?_))))
  refine A5 rfl ?_
  refine A1 rfl (H8 rfl C7 D2 (A0 rfl) (A0 rfl) hx (by first | omega | (simp only [D1, B1, szR] at *; omega))) ?_
  refine A1 rfl (I9 rfl (A0 rfl) E5 rfl) ?_
  refine B5 rfl ?_
  refine B5 rfl ?_
  refine A4 (A3 (A2 ?_))
  refine A5 rfl ?_
  refine A1 rfl (D4 rfl Tryz.call112 rfl (AG6 _ (by omega)) (A9 (A0 rfl) C6)) ?_
  refine A1 rfl (I3 rfl (A0 rfl)) ?_
  refine A5 rfl ?_
  refine I0 rfl (fun hc => C3 rfl (A0 rfl)) ?_
  refine I0 rfl (fun hc => P8 rfl (A7 rfl hc) B3) ?_
  refine I0 rfl (fun hc => C3 rfl (A7 rfl hc)) ?_
  refine F9 rfl rfl (C9 rfl rfl rfl) (fun hc => C3 rfl (A0 rfl)) ?_
  refine F9 rfl rfl (C9 rfl rfl rfl) (fun hc => C3 rfl (A0 rfl)) ?_
  refine F9 rfl rfl (C9 rfl rfl rfl) (fun hc => C3 rfl (A0 rfl)) ?_
  refine F9 rfl rfl (C9 rfl rfl rfl) (fun hc => L1 rfl (A7 rfl hc) B3 (by first | omega | ((try simp only [D1, B1, szR] at *); omega) | (have hc2 := hc; simp only [L4, beq_iff_eq, bne_iff_ne, A6, G2] at hc2; omega))) ?_
  refine F9 rfl rfl (C9 rfl rfl rfl) (fun hc => H8 rfl C7 D2 (A7 rfl hc) (A7 rfl hc) hy (by first | omega | ((try simp only [D1, B1, szR] at *); omega) | (have hc2 := hc; simp only [L4, beq_iff_eq, bne_iff_ne, A6, G2] at hc2; omega))) ?_
  refine F9 rfl rfl (C9 rfl rfl rfl) (fun hc => I9 rfl (A7 rfl hc) E5 rfl) ?_
  refine F9 rfl rfl (C9 rfl rfl rfl) (fun hc => w_sleq rfl (A7 rfl hc) (A7 rfl hc)) ?_
  refine I0 rfl (fun hc => G4 rfl (A7 rfl hc) (K4 rfl hc)) ?_
  refine A1 rfl (M5 rfl (A0 rfl) (E9 rfl)) ?_
  refine A4 ?_
  refine B8 (A0 rfl) ?_ ?_
  ·intro h27
   have hfin : areRising l = false := by rw [hinv.2]; cases hg : goodKey x with | false => (rw [W5 hx hg]; simp) | true => (have hb : 0 < i ∧ Op.bytesLess y x = false := (by have := N9 y x; simp_all; try grind); rw [X9 hx hy hb.1 hb.2]; simp)
   refine A3 (A2 ?_)
   refine A1 rfl (A8 rfl D8) ?_
   refine A4 ?_
   refine B7 ?_
   exact D7 rfl (B6 rfl (by first | exact congrArg AV.bool hfin.symm | exact congrArg AV.bool (by rw [hinv.2, R6 hge, R5 hge]; rfl)))
  intro h27
  have hg : goodKey x = true ∧ (0 < i → Op.bytesLess y x = true) := by have := N9 y x; simp_all
  refine B9 (A2 ?_)
  refine A1 rfl (G6 rfl (A0 rfl) B3 (by first | omega | (simp only [D1, B1, szR] at *; omega))) ?_
  refine A5 rfl ?_
  refine A4 ?_
  refine G9 i (i + 1) ?_ ?_ (G1 ⟨rfl, rfl, rfl, rfl, trivial⟩)
  ·exact ⟨by omega, by rw [hinv.2, Y0 hx hg.1, X8 hx hy hg.2]⟩
  omega
 intro h8
 have k8 := of_decide_eq_false h8; try simp only [A6] at k8
 have hge : l.length ≤ i := by omega
 refine F3 ?_
 refine A3 (A2 ?_)
 refine A1 rfl (A8 rfl D8) ?_
 refine A4 ?_
 refine B7 ?_
 exact D7 rfl (B6 rfl (by first | exact congrArg AV.bool hfin.symm | exact congrArg AV.bool (by rw [hinv.2, R6 hge, R5 hge]; rfl)))
theorem y9 (l : List TWrite) (hs : sizeL TWrite.size l ≤ 4194304) : FSpec Tryz.prog 216 [AV.list 3 (l.map TWrite.cs)] (strs (wKeys l)) := by
 have hl : l.length ≤ 4194304 := Nat.le_trans K9 hs
 refine C1 Tryz.func216 rfl Tryz.ntmps216 rfl ?_
 refine A3 (A2 ?_)
 refine A1 rfl (A8 rfl (V5 (sz := 1))) ?_
 refine A4 (A3 (A2 ?_))
 refine V9 rfl rfl rfl rfl C7 D2 ?_
 intro v6
 refine B5 rfl ?_
 refine A4 (A3 (A3 (A2 ?_)))
 refine A5 rfl ?_
 refine A1 rfl (E4 rfl E6 (A0 rfl)) ?_
 refine A1 rfl (C3 rfl B3) ?_
 refine A4 (C5 ?_)
 refine M3 [(2, _), (7, _), (8, _)] _ (fun (i : Nat) (v : Value) => i ≤ l.length) (fun (i : Nat) (v : Value) => [.arr v 9 1 ((l.take i).map fun w => [AV.str w.Key])]) (fun (i : Nat) (v : Value) => [(3, AV.is v), (9, AV.int i)]) (fun (i : Nat) (v : Value) => l.length - i) (0) (v6) ?_ (M7 (by rfl) ⟨rfl, rfl, rfl, rfl, rfl, trivial⟩) ?_
 ·exact Nat.zero_le _
 intro i v hinv
 refine A3 (A2 ?_)
 refine A1 rfl (F8 rfl (A0 rfl) (A0 rfl)) ?_
 refine A4 (A3 ?_)
 refine B8 (A0 rfl) ?_ ?_
 ·intro h10
  have k10 := of_decide_eq_true h10; try simp only [A6] at k10
  have hlt : i < l.length := by omega
  obtain ⟨x, hx⟩ := get_some hlt
  refine B9 (A3 (C5 (A3 (A2 ?_))))
  refine A1 rfl (H8 rfl E6 F7 (A0 rfl) (A0 rfl) hx (by first | omega | (simp only [D1, B1, szR] at *; omega))) ?_
  refine A1 rfl (G8 rfl (A0 rfl) L5 F7) ?_
  refine H4 rfl rfl rfl rfl Tryz.zeroValue101 rfl ?_
  intro b5
  refine H1 0 rfl rfl rfl (A0 rfl) (A0 rfl) (I6 _) rfl F7 rfl ?_
  refine A4 (A2 ?_)
  refine A5 rfl ?_
  refine A1 rfl (B2 0 rfl F5 rfl D2 (A0 rfl) rfl) ?_
  refine A1 rfl (B0 0 rfl (A0 rfl) rfl E5 rfl) ?_
  refine A1 rfl (c5 rfl C7 D2 Tryz.zeroValue9 rfl rfl rfl rfl (O2 (A0 rfl) (U8 _) Z1) rfl rfl) ?_
  refine S0 (by' := 16) 1 rfl rfl rfl rfl C7 Tryz.type9 rfl rfl rfl rfl rfl rfl (A0 rfl) (A0 rfl) rfl (by first | omega | (simp only [D1, B1, szR] at *; omega)) ?_
  intro v17_1
  refine B5 rfl ?_
  refine A4 (A2 ?_)
  refine A1 rfl (G6 rfl (A0 rfl) B3 (by first | omega | (simp only [D1, B1, szR] at *; omega))) ?_
  refine A5 rfl ?_
  refine A4 ?_
  refine L8 i v (i + 1) (v17_1) ?_ ?_ (S1 1 (by exact congrArg (fun z => [Own.arr v17_1 9 1 z]) (j5 (f := fun w : TWrite => [AV.str w.Key]) hx)) ⟨rfl, rfl, rfl, rfl, rfl, trivial⟩)
  ·omega
  omega
 intro h10
 have k10 := of_decide_eq_false h10; try simp only [A6] at k10
 have hge : l.length ≤ i := by omega
 rw [List.take_of_length_le hge]
 refine F3 ?_
 refine A3 (A2 ?_)
 refine A5 rfl ?_
 refine B5 rfl ?_
 refine A4 ?_
 refine B7 ?_
 refine V0 0 2 rfl rfl ?_
 exact D7 rfl (B6 rfl (by exact congrArg (AV.list 1) (by unfold wKeys; rw [List.map_map]; rfl)))
theorem r8 (w : TWrite) (h : w.size ≤ 4194304) : FSpec Tryz.prog 217 [AV.agg w.cs] (AV.bool (!isStored w.Val w.Gone)) := by
 unfold TWrite.size at h
 refine C1 Tryz.func217 rfl Tryz.ntmps217 rfl ?_
 refine A3 (A2 ?_)
 refine I2 rfl rfl rfl rfl (A0 rfl) ?_
 intro b1
 refine A1 rfl (A8 rfl D8) ?_
 refine A4 (A3 (A2 ?_))
 refine A1 rfl (B2 1 rfl F5 rfl D2 (A0 rfl) rfl) ?_
 refine A1 rfl (B0 0 rfl (A0 rfl) rfl E5 rfl) ?_
 refine A1 rfl (B2 2 rfl F5 rfl G7 (A0 rfl) rfl) ?_
 refine A1 rfl (B0 0 rfl (A0 rfl) rfl H9 rfl) ?_
 refine A1 rfl (D4 rfl Tryz.call113 rfl (j8 _ _ (by omega)) (A9 (A0 rfl) (A9 (A0 rfl) C6))) ?_
 refine A1 rfl (I3 rfl (A0 rfl)) ?_
 refine B5 rfl ?_
 refine A4 ?_
 refine B7 ?_
 exact D7 rfl (B6 rfl (by first | rfl | (refine congrArg AV.bool ?_; simp_all; done)))
theorem u4 (l : List TWrite) (hs : sizeL TWrite.size l ≤ 4194304) : FSpec Tryz.prog 185 [AV.list 3 (l.map TWrite.cs)] (AV.bool (goodWrites l)) := by
 have hm : ∀ x ∈ l, x.size ≤ 4194304 := fun x hx => Nat.le_trans (X2 hx) hs
 refine C1 Tryz.func185 rfl Tryz.ntmps185 rfl ?_
 refine A3 (A2 ?_)
 refine A1 rfl (A8 rfl D8) ?_
 refine A4 (A3 (A2 ?_))
 refine A5 rfl ?_
 refine A1 rfl (E4 rfl E6 (A0 rfl)) ?_
 refine A1 rfl (O6 rfl (A0 rfl) B3) ?_
 refine A5 rfl ?_
 refine C4 rfl (fun hc => C3 rfl (A0 rfl)) ?_
 refine C4 rfl (fun hc => D4 rfl Tryz.call216 rfl (y9 _ (by assumption)) (A9 (A7 rfl hc) C6)) ?_
 refine C4 rfl (fun hc => D4 rfl Tryz.call119 rfl (Y3 _ (by first | assumption | exact AQ7 (by assumption))) (A9 (A7 rfl hc) C6)) ?_
 refine A1 rfl (G4 rfl (A0 rfl) (E9 rfl)) ?_
 refine A5 rfl ?_
 refine C4 rfl (fun hc => C3 rfl (A0 rfl)) ?_
 refine C4 rfl (fun hc => D4 rfl Tryz.call141 rfl (S4 _ _ _ (by first | (intros; trivial) | assumption | (intros; first | trivial | (simp_all; done)))) (A9 (A7 rfl hc) (A9 (AN7 Tryz.call217 (fun w h => r8 w h)) C6))) ?_
 refine C4 rfl (fun hc => I3 rfl (A7 rfl hc)) ?_
 refine A1 rfl (G4 rfl (A0 rfl) (E9 rfl)) ?_
 refine B5 rfl ?_
 refine A4 ?_
 refine B7 ?_
 exact D7 rfl (B6 rfl (by exact congrArg AV.bool (by unfold goodWrites; simp only [A6])))
theorem AD4 (l : List TWrite) (hs : sizeL TWrite.size l ≤ 1048576) : FSpec Tryz.prog 163 [AV.list 3 (l.map TWrite.cs)] (AV.bool (l3Writes l)) := by
 refine C1 Tryz.func163 rfl Tryz.ntmps163 rfl ?_
 refine J7 (t := 0) rfl fun hl => ?_
 try simp only [A6] at hl
 refine A3 (A2 ?_)
 refine A1 rfl (A8 rfl D8) ?_
 refine A4 (A3 (A3 (A2 ?_)))
 refine A5 rfl ?_
 refine A1 rfl (E4 rfl E6 (A0 rfl)) ?_
 refine A1 rfl (C3 rfl B3) ?_
 refine A4 (C5 ?_)
 refine G0 [(0, _), (5, _), (6, _)] _ (fun (i : Nat) => i ≤ l.length ∧ (l.all wGood && adj wLess l) = ((l.drop i).all wGood && adj wLess (l.drop (i - 1)))) (fun (i : Nat) => []) (fun (i : Nat) => [(7, AV.int i)]) (fun (i : Nat) => l.length - i) (0) ?_ (G1 ⟨rfl, rfl, rfl, rfl, trivial⟩) ?_
 ·exact ⟨Nat.zero_le _, rfl⟩
 intro i hinv
 refine A3 (A2 ?_)
 refine A1 rfl (F8 rfl (A0 rfl) (A0 rfl)) ?_
 refine A4 (A3 ?_)
 refine B8 (A0 rfl) ?_ ?_
 ·intro h8
  have k8 := of_decide_eq_true h8; try simp only [A6] at k8
  have hlt : i < l.length := by omega
  obtain ⟨x, hx⟩ := get_some hlt
  obtain ⟨y, hy⟩ := get_some (show i - 1 < l.length by omega)
  have hsx : x.size ≤ 1048576 := Nat.le_trans (O3 hx) hs
  unfold TWrite.size at hsx
  refine B9 (A3 (C5 (A3 (A2 ?_))))
  refine A5 rfl ?_
  refine A1 rfl (H8 rfl E6 F7 (A0 rfl) (A0 rfl) hx (by first | omega | (simp only [D1, B1, szR] at *; omega))) ?_
  refine A1 rfl (G8 rfl (A0 rfl) L5 F7) ?_
  refine H4 rfl rfl rfl rfl Tryz.zeroValue101 rfl ?_
  intro b4
  refine B5 rfl ?_
  refine H1 0 rfl rfl rfl (A0 rfl) (A0 rfl) (I6 _) rfl F7 rfl ?_
  refine A4 (A3 ?_)
  refine H5 (by kernel_rfl) (by kernel_rfl) rfl ?_
  refine B4 rfl rfl (B2 0 rfl F5 rfl D2 (A0 rfl) rfl) ?_
  refine B4 rfl rfl (B0 0 rfl (A0 rfl) rfl E5 rfl) ?_
  refine B4 rfl rfl (B2 1 rfl F5 rfl D2 (A0 rfl) rfl) ?_
  refine B4 rfl rfl (B0 0 rfl (A0 rfl) rfl E5 rfl) ?_
  refine B4 rfl rfl (B2 2 rfl F5 rfl G7 (A0 rfl) rfl) ?_
  refine B4 rfl rfl (B0 0 rfl (A0 rfl) rfl H9 rfl) ?_
  refine B4 rfl rfl (D4 rfl Tryz.call165 rfl (m9 _ _ _ (by omega) (by omega)) (A9 (A0 rfl) (A9 (A0 rfl) (A9 (A0 rfl) C6)))) ?_
  refine B4 rfl rfl (I3 rfl (A0 rfl)) ?_
  refine B4 rfl rfl (C3 rfl (A0 rfl)) ?_
  refine D3 rfl (F2 rfl rfl rfl) (fun hc => C3 rfl (A0 rfl)) ?_
  refine D3 rfl (F2 rfl rfl rfl) (fun hc => P8 rfl (A7 rfl hc) B3) ?_
  refine D3 rfl (F2 rfl rfl rfl) (fun hc => C3 rfl (A7 rfl hc)) ?_
  refine D3 rfl (C9 rfl rfl rfl) (fun hc => C3 rfl (A0 rfl)) ?_
  refine D3 rfl (C9 rfl rfl rfl) (fun hc => C3 rfl (A0 rfl)) ?_
  refine D3 rfl (C9 rfl rfl rfl) (fun hc => L1 rfl (A7 rfl hc) B3 (by first | omega | ((try simp only [D1, B1, szR] at *); omega) | (have hc2 := hc; simp only [L4, beq_iff_eq, bne_iff_ne, A6, G2] at hc2; omega))) ?_
  refine D3 rfl (C9 rfl rfl rfl) (fun hc => H8 rfl E6 F7 (A7 rfl hc) (A7 rfl hc) hy (by first | omega | ((try simp only [D1, B1, szR] at *); omega) | (have hc2 := hc; simp only [L4, beq_iff_eq, bne_iff_ne, A6, G2] at hc2; omega))) ?_
  refine D3 rfl (C9 rfl rfl rfl) (fun hc => P9 rfl F5 rfl D2 (A7 rfl hc) rfl) ?_
  refine D3 rfl (C9 rfl rfl rfl) (fun hc => I9 rfl (A7 rfl hc) E5 rfl) ?_
  refine D3 rfl (C9 rfl rfl rfl) (fun hc => B2 0 rfl F5 rfl D2 (A0 rfl) rfl) ?_
  refine D3 rfl (C9 rfl rfl rfl) (fun hc => B0 0 rfl (A7 rfl hc) rfl E5 rfl) ?_
  refine D3 rfl (C9 rfl rfl rfl) (fun hc => AF6 rfl (A7 rfl hc) (A7 rfl hc)) ?_
  refine D3 rfl (F2 rfl rfl rfl) (fun hc => G4 rfl (A7 rfl hc) (K4 rfl hc)) ?_
  refine B4 rfl rfl (M5 rfl (A0 rfl) (E9 rfl)) ?_
  refine M6 ?_
  refine B8 (A0 rfl) ?_ ?_
  ·intro h34
   have hfin : l3Writes l = false := by unfold l3Writes; rw [hinv.2]; cases hg : wGood x with | false => (rw [W5 hx hg]; simp) | true => (have hb : 0 < i ∧ wLess y x = false := (by unfold wGood at hg; unfold wLess; simp_all; try grind); rw [X9 hx hy hb.1 hb.2]; simp)
   refine A3 (A2 ?_)
   refine A1 rfl (A8 rfl D8) ?_
   refine A4 ?_
   refine B7 ?_
   exact D7 rfl (B6 rfl (by first | exact congrArg AV.bool hfin.symm | exact congrArg AV.bool (by unfold l3Writes; rw [hinv.2, R6 hge, R5 hge, A6]; simp)))
  intro h34
  have hg : wGood x = true ∧ (0 < i → wLess y x = true) := by unfold wGood wLess; simp_all
  refine B9 (A2 ?_)
  refine A1 rfl (G6 rfl (A0 rfl) B3 (by first | omega | (simp only [D1, B1, szR] at *; omega))) ?_
  refine A5 rfl ?_
  refine A4 ?_
  refine G9 i (i + 1) ?_ ?_ (N0 1 ⟨rfl, rfl, rfl, rfl, trivial⟩)
  ·exact ⟨by omega, by rw [hinv.2, Y0 hx hg.1, X8 hx hy hg.2]⟩
  omega
 intro h8
 have k8 := of_decide_eq_false h8; try simp only [A6] at k8
 have hge : l.length ≤ i := by omega
 refine F3 ?_
 refine A3 (A2 ?_)
 refine A5 rfl ?_
 refine A1 rfl (E4 rfl E6 (A0 rfl)) ?_
 refine A1 rfl (O6 rfl (A0 rfl) B3) ?_
 refine B5 rfl ?_
 refine A4 ?_
 refine B7 ?_
 exact D7 rfl (B6 rfl (by first | exact congrArg AV.bool hfin.symm | exact congrArg AV.bool (by unfold l3Writes; rw [hinv.2, R6 hge, R5 hge, A6]; simp)))
end Go.Proofs.YtkegepoihkhihaaGreat

namespace Go.Proofs.YtkegepoihkhihaaGreat
open Go Go.AV Go.M
attribute [local irreducible] OpW OpA OpS AWP FSpec ESpec RetOk RvDen Le Ev GuardIs
theorem u5 (w : TWrite) (k : Str) : FSpec Tryz.prog 230 [AV.agg w.cs, AV.str k] (AV.int (wCmp k w)) := by
 refine C1 Tryz.func230 rfl Tryz.ntmps230 rfl ?_
 refine A3 (A2 ?_)
 refine I2 rfl rfl rfl rfl (A0 rfl) ?_
 intro b2
 refine A1 rfl (A8 rfl B3) ?_
 refine A4 (A3 (A2 ?_))
 refine A1 rfl (B2 0 rfl F5 rfl D2 (A0 rfl) rfl) ?_
 refine A1 rfl (B0 0 rfl (A0 rfl) rfl E5 rfl) ?_
 refine A5 rfl ?_
 refine A1 rfl (D4 rfl Tryz.call105 rfl (o8 _ _) (A9 (A0 rfl) (A9 (A0 rfl) C6))) ?_
 refine B5 rfl ?_
 refine A4 ?_
 refine B7 ?_
 exact D7 rfl (B6 rfl (by first | rfl | (refine congrArg AV.bool ?_; simp_all; done)))
theorem z6 (l : List TWrite) (k : Str) (hs : l.length ≤ 4611686018427387903) : FSpec Tryz.prog 219 [AV.list 3 (l.map TWrite.cs), AV.str k] (AV.tup [AV.int (wPos l k), AV.bool (wHas l k)]) := by
 refine C1 Tryz.func219 rfl Tryz.ntmps219 rfl ?_
 refine A3 (A2 ?_)
 refine A1 rfl (A8 rfl B3) ?_
 refine A1 rfl (A8 rfl D8) ?_
 refine A4 (A3 (A2 ?_))
 refine A5 rfl ?_
 refine A5 rfl ?_
 refine A1 rfl (D4 rfl Tryz.call229 rfl (f2 _ _ _ (by first | (intros; trivial) | assumption | (intros; first | trivial | (simp_all; done))) _ (by omega)) (A9 (A0 rfl) (A9 (A0 rfl) (A9 (x5 Tryz.call230 (fun w k (_ : True) => u5 w k)) C6)))) ?_
 refine A1 rfl (K8 rfl (A0 rfl) rfl) ?_
 refine A1 rfl (K8 rfl (A0 rfl) rfl) ?_
 refine B5 rfl ?_
 refine B5 rfl ?_
 refine A4 ?_
 refine B7 ?_
 exact W1 rfl (by decide) (K5 (B6 rfl (by first | rfl | (refine congrArg AV.bool ?_; simp_all; done))) (K5 (B6 rfl (by first | rfl | (refine congrArg AV.bool ?_; simp_all; done))) Q9))
end Go.Proofs.YtkegepoihkhihaaGreat

namespace Go.Proofs.YtkegepoihkhihaaGreat
open Go Go.AV Go.M
attribute [local irreducible] OpW OpA OpS AWP FSpec ESpec RetOk RvDen Le Ev GuardIs
theorem c9 {c : TCell} {n : Nat} (h : c.size ≤ n) : c.Key.length ≤ n ∧ c.Vers.length ≤ n ∧ sizeL TVer.size c.Vers ≤ n := by
  unfold TCell.size at h
  have : c.Vers.length ≤ n := Nat.le_trans K9 (show sizeL TVer.size c.Vers ≤ n by omega)
  omega
theorem AK9 (t : Int) : FSpec Tryz.prog 52 [AV.int t] (AV.bool (isTrue t)) := by
 refine C1 Tryz.func52 rfl Tryz.ntmps52 rfl ?_
 refine A3 (A2 ?_)
 refine A1 rfl (A8 rfl D8) ?_
 refine A4 (A3 (A2 ?_))
 refine A5 rfl ?_
 refine A1 rfl (D4 rfl Tryz.call82 rfl (Q6 _ _ _) (A9 (A0 rfl) (A9 B3 (A9 B3 C6)))) ?_
 refine B5 rfl ?_
 refine A4 ?_
 refine B7 ?_
 exact D7 rfl (B6 rfl (by first | rfl | (refine congrArg AV.bool ?_; simp_all; done)))
theorem U4 (t : Int) : FSpec Tryz.prog 161 [AV.int t] (AV.bool (within t 1 100000)) := by
 refine C1 Tryz.func161 rfl Tryz.ntmps161 rfl ?_
 refine A3 (A2 ?_)
 refine A1 rfl (A8 rfl D8) ?_
 refine A4 (A3 (A2 ?_))
 refine A5 rfl ?_
 refine A1 rfl (D4 rfl Tryz.call39 rfl (P7 _ _ _) (A9 (A0 rfl) (A9 B3 (A9 B3 C6)))) ?_
 refine B5 rfl ?_
 refine A4 ?_
 refine B7 ?_
 exact D7 rfl (B6 rfl (by first | rfl | (refine congrArg AV.bool ?_; simp_all; done)))
theorem AL0 (t : Int) : FSpec Tryz.prog 124 [AV.int t] (AV.bool (isTrue t)) := by
 refine C1 Tryz.func124 rfl Tryz.ntmps124 rfl ?_
 refine A3 (A2 ?_)
 refine A1 rfl (A8 rfl D8) ?_
 refine A4 (A3 (A2 ?_))
 refine A5 rfl ?_
 refine A1 rfl (D4 rfl Tryz.call39 rfl (P7 _ _ _) (A9 (A0 rfl) (A9 B3 (A9 B3 C6)))) ?_
 refine B5 rfl ?_
 refine A4 ?_
 refine B7 ?_
 exact D7 rfl (B6 rfl (by first | rfl | (refine congrArg AV.bool ?_; simp_all; done)))
theorem AL1 (c : TCell) (hs : c.size ≤ 4194304) : FSpec Tryz.prog 118 [AV.agg c.cs] (AV.bool (isCell c)) := by
 have hcl := c9 hs
 refine C1 Tryz.func118 rfl Tryz.ntmps118 rfl ?_
 refine A3 (A2 ?_)
 refine I2 rfl rfl rfl rfl (A0 rfl) ?_
 intro b1
 refine A1 rfl (A8 rfl D8) ?_
 refine A4 (A3 (A3 (A2 ?_)))
 refine A1 rfl (B2 1 rfl F6 rfl K2 (A0 rfl) rfl) ?_
 refine A1 rfl (B0 0 rfl (A0 rfl) rfl L6 rfl) ?_
 refine A1 rfl (E4 rfl H2 (A0 rfl)) ?_
 refine A1 rfl (C3 rfl B3) ?_
 refine A4 (C5 ?_)
 refine G0 [(1, _), (6, _), (7, _)] _ (fun (i : Nat) => i ≤ c.Vers.length ∧ (c.Vers.all verGood && adj verLess c.Vers) = ((c.Vers.drop i).all verGood && adj verLess (c.Vers.drop (i - 1)))) (fun (i : Nat) => []) (fun (i : Nat) => [(8, AV.int i)]) (fun (i : Nat) => c.Vers.length - i) (0) ?_ (G1 ⟨rfl, rfl, rfl, rfl, trivial⟩) ?_
 ·exact ⟨Nat.zero_le _, rfl⟩
 intro i hinv
 refine A3 (A2 ?_)
 refine A1 rfl (F8 rfl (A0 rfl) (A0 rfl)) ?_
 refine A4 (A3 ?_)
 refine B8 (A0 rfl) ?_ ?_
 ·intro h9
  have k9 := of_decide_eq_true h9; try simp only [A6] at k9
  have hlt : i < c.Vers.length := by omega
  obtain ⟨x, hx⟩ := get_some hlt
  obtain ⟨y, hy⟩ := get_some (show i - 1 < c.Vers.length by omega)
  have hsx : x.size ≤ 4194304 := Nat.le_trans (O3 hx) hcl.2.2
  unfold TVer.size at hsx
  refine B9 (A3 (C5 (A3 (A2 ?_))))
  refine A5 rfl ?_
  refine A1 rfl (H8 rfl H2 I7 (A0 rfl) (A0 rfl) hx (by first | omega | (simp only [D1, B1, szR] at *; omega))) ?_
  refine A1 rfl (G8 rfl (A0 rfl) S9 I7) ?_
  refine H4 rfl rfl rfl rfl Tryz.zeroValue127 rfl ?_
  intro b4
  refine B5 rfl ?_
  refine H1 0 rfl rfl rfl (A0 rfl) (A0 rfl) (I6 _) rfl I7 rfl ?_
  refine A4 (A3 ?_)
  refine H5 (by kernel_rfl) (by kernel_rfl) rfl ?_
  refine B4 rfl rfl (B2 0 rfl H3 rfl C2 (A0 rfl) rfl) ?_
  refine B4 rfl rfl (B0 0 rfl (A0 rfl) rfl D0 rfl) ?_
  refine B4 rfl rfl (D4 rfl Tryz.call111 rfl (U3 _) (A9 (A0 rfl) C6)) ?_
  refine B4 rfl rfl (I3 rfl (A0 rfl)) ?_
  refine B4 rfl rfl (C3 rfl (A0 rfl)) ?_
  refine D3 rfl (F2 rfl rfl rfl) (fun hc => B2 1 rfl H3 rfl D2 (A0 rfl) rfl) ?_
  refine D3 rfl (F2 rfl rfl rfl) (fun hc => B0 0 rfl (A7 rfl hc) rfl E5 rfl) ?_
  refine D3 rfl (F2 rfl rfl rfl) (fun hc => B2 2 rfl H3 rfl G7 (A0 rfl) rfl) ?_
  refine D3 rfl (F2 rfl rfl rfl) (fun hc => B0 0 rfl (A7 rfl hc) rfl H9 rfl) ?_
  refine D3 rfl (F2 rfl rfl rfl) (fun hc => D4 rfl Tryz.call113 rfl (j8 _ _ (by omega)) (A9 (A7 rfl hc) (A9 (A7 rfl hc) C6))) ?_
  refine D3 rfl (F2 rfl rfl rfl) (fun hc => I3 rfl (A7 rfl hc)) ?_
  refine B4 rfl rfl (M5 rfl (A0 rfl) (E9 rfl)) ?_
  refine B4 rfl rfl (C3 rfl (A0 rfl)) ?_
  refine D3 rfl (F2 rfl rfl rfl) (fun hc => C3 rfl (A0 rfl)) ?_
  refine D3 rfl (F2 rfl rfl rfl) (fun hc => P8 rfl (A7 rfl hc) B3) ?_
  refine D3 rfl (F2 rfl rfl rfl) (fun hc => C3 rfl (A7 rfl hc)) ?_
  refine D3 rfl (C9 rfl rfl rfl) (fun hc => B2 0 rfl H3 rfl C2 (A0 rfl) rfl) ?_
  refine D3 rfl (C9 rfl rfl rfl) (fun hc => B0 0 rfl (A7 rfl hc) rfl D0 rfl) ?_
  refine D3 rfl (C9 rfl rfl rfl) (fun hc => B2 1 rfl F6 rfl K2 (A0 rfl) rfl) ?_
  refine D3 rfl (C9 rfl rfl rfl) (fun hc => B0 1 rfl (A7 rfl hc) rfl L6 rfl) ?_
  refine D3 rfl (C9 rfl rfl rfl) (fun hc => C3 rfl (A0 rfl)) ?_
  refine D3 rfl (C9 rfl rfl rfl) (fun hc => L1 rfl (A7 rfl hc) B3 (by first | omega | ((try simp only [D1, B1, szR] at *); omega) | (have hc2 := hc; simp only [L4, beq_iff_eq, bne_iff_ne, A6, G2] at hc2; omega))) ?_
  refine D3 rfl (C9 rfl rfl rfl) (fun hc => H8 rfl H2 I7 (A7 rfl hc) (A7 rfl hc) hy (by first | omega | ((try simp only [D1, B1, szR] at *); omega) | (have hc2 := hc; simp only [L4, beq_iff_eq, bne_iff_ne, A6, G2] at hc2; omega))) ?_
  refine D3 rfl (C9 rfl rfl rfl) (fun hc => P9 rfl H3 rfl C2 (A7 rfl hc) rfl) ?_
  refine D3 rfl (C9 rfl rfl rfl) (fun hc => I9 rfl (A7 rfl hc) D0 rfl) ?_
  refine D3 rfl (C9 rfl rfl rfl) (fun hc => O6 rfl (A7 rfl hc) (A7 rfl hc)) ?_
  refine D3 rfl (F2 rfl rfl rfl) (fun hc => G4 rfl (A7 rfl hc) (K4 rfl hc)) ?_
  refine B4 rfl rfl (M5 rfl (A0 rfl) (E9 rfl)) ?_
  refine M6 ?_
  refine B8 (A0 rfl) ?_ ?_
  ·intro h40
   have hfin : isCell c = false := by unfold isCell; rw [hinv.2]; cases hg : verGood x with | false => (rw [W5 hx hg]; simp) | true => (have hb : 0 < i ∧ verLess y x = false := (by unfold verGood at hg; unfold verLess; simp_all; try grind); rw [X9 hx hy hb.1 hb.2]; simp)
   refine A3 (A2 ?_)
   refine A1 rfl (A8 rfl D8) ?_
   refine A4 ?_
   refine B7 ?_
   exact D7 rfl (B6 rfl (by first | exact congrArg AV.bool hfin.symm | exact congrArg AV.bool (by unfold isCell; rw [hinv.2, R6 hge, R5 hge]; simp)))
  intro h40
  have hg : verGood x = true ∧ (0 < i → verLess y x = true) := by unfold verGood verLess; simp_all
  refine B9 (A2 ?_)
  refine A1 rfl (G6 rfl (A0 rfl) B3 (by first | omega | (simp only [D1, B1, szR] at *; omega))) ?_
  refine A5 rfl ?_
  refine A4 ?_
  refine G9 i (i + 1) ?_ ?_ (N0 1 ⟨rfl, rfl, rfl, rfl, trivial⟩)
  ·exact ⟨by omega, by rw [hinv.2, Y0 hx hg.1, X8 hx hy hg.2]⟩
  omega
 intro h9
 have k9 := of_decide_eq_false h9; try simp only [A6] at k9
 have hge : c.Vers.length ≤ i := by omega
 refine F3 ?_
 refine A3 (A2 ?_)
 refine A1 rfl (B2 1 rfl F6 rfl K2 (A0 rfl) rfl) ?_
 refine A1 rfl (B0 0 rfl (A0 rfl) rfl L6 rfl) ?_
 refine A1 rfl (E4 rfl H2 (A0 rfl)) ?_
 refine A1 rfl (D4 rfl Tryz.call82 rfl (Q6 _ _ _) (A9 (A0 rfl) (A9 B3 (A9 B3 C6)))) ?_
 refine B5 rfl ?_
 refine A4 ?_
 refine B7 ?_
 exact D7 rfl (B6 rfl (by first | exact congrArg AV.bool hfin.symm | exact congrArg AV.bool (by unfold isCell; rw [hinv.2, R6 hge, R5 hge]; simp)))
theorem AL2 (c : TCell) (hs : c.size ≤ 4194304) : FSpec Tryz.prog 176 [AV.agg c.cs] (AV.bool (l3Cell c)) := by
 have hcl := c9 hs
 refine C1 Tryz.func176 rfl Tryz.ntmps176 rfl ?_
 refine A3 (A2 ?_)
 refine I2 rfl rfl rfl rfl (A0 rfl) ?_
 intro b1
 refine A1 rfl (A8 rfl D8) ?_
 refine A4 (A3 (A3 (A2 ?_)))
 refine A1 rfl (B2 1 rfl F6 rfl K2 (A0 rfl) rfl) ?_
 refine A1 rfl (B0 0 rfl (A0 rfl) rfl L6 rfl) ?_
 refine A1 rfl (E4 rfl H2 (A0 rfl)) ?_
 refine A1 rfl (C3 rfl B3) ?_
 refine A4 (C5 ?_)
 refine G0 [(1, _), (6, _), (7, _)] _ (fun (i : Nat) => i ≤ c.Vers.length ∧ (c.Vers.all (verGoodS c.Key) && adj verLess c.Vers) = ((c.Vers.drop i).all (verGoodS c.Key) && adj verLess (c.Vers.drop (i - 1)))) (fun (i : Nat) => []) (fun (i : Nat) => [(8, AV.int i)]) (fun (i : Nat) => c.Vers.length - i) (0) ?_ (G1 ⟨rfl, rfl, rfl, rfl, trivial⟩) ?_
 ·exact ⟨Nat.zero_le _, rfl⟩
 intro i hinv
 refine A3 (A2 ?_)
 refine A1 rfl (F8 rfl (A0 rfl) (A0 rfl)) ?_
 refine A4 (A3 ?_)
 refine B8 (A0 rfl) ?_ ?_
 ·intro h9
  have k9 := of_decide_eq_true h9; try simp only [A6] at k9
  have hlt : i < c.Vers.length := by omega
  obtain ⟨x, hx⟩ := get_some hlt
  obtain ⟨y, hy⟩ := get_some (show i - 1 < c.Vers.length by omega)
  have hsx : x.size ≤ 4194304 := Nat.le_trans (O3 hx) hcl.2.2
  unfold TVer.size at hsx
  refine B9 (A3 (C5 (A3 (A2 ?_))))
  refine A5 rfl ?_
  refine A1 rfl (H8 rfl H2 I7 (A0 rfl) (A0 rfl) hx (by first | omega | (simp only [D1, B1, szR] at *; omega))) ?_
  refine A1 rfl (G8 rfl (A0 rfl) S9 I7) ?_
  refine H4 rfl rfl rfl rfl Tryz.zeroValue127 rfl ?_
  intro b4
  refine B5 rfl ?_
  refine H1 0 rfl rfl rfl (A0 rfl) (A0 rfl) (I6 _) rfl I7 rfl ?_
  refine A4 (A3 ?_)
  refine H5 (by kernel_rfl) (by kernel_rfl) rfl ?_
  refine B4 rfl rfl (B2 0 rfl H3 rfl C2 (A0 rfl) rfl) ?_
  refine B4 rfl rfl (B0 0 rfl (A0 rfl) rfl D0 rfl) ?_
  refine B4 rfl rfl (D4 rfl Tryz.call161 rfl (U4 _) (A9 (A0 rfl) C6)) ?_
  refine B4 rfl rfl (I3 rfl (A0 rfl)) ?_
  refine B4 rfl rfl (C3 rfl (A0 rfl)) ?_
  refine D3 rfl (F2 rfl rfl rfl) (fun hc => B2 0 rfl F6 rfl D2 (A0 rfl) rfl) ?_
  refine D3 rfl (F2 rfl rfl rfl) (fun hc => B0 1 rfl (A7 rfl hc) rfl E5 rfl) ?_
  refine D3 rfl (F2 rfl rfl rfl) (fun hc => B2 1 rfl H3 rfl D2 (A0 rfl) rfl) ?_
  refine D3 rfl (F2 rfl rfl rfl) (fun hc => B0 0 rfl (A7 rfl hc) rfl E5 rfl) ?_
  refine D3 rfl (F2 rfl rfl rfl) (fun hc => B2 2 rfl H3 rfl G7 (A0 rfl) rfl) ?_
  refine D3 rfl (F2 rfl rfl rfl) (fun hc => B0 0 rfl (A7 rfl hc) rfl H9 rfl) ?_
  refine D3 rfl (F2 rfl rfl rfl) (fun hc => D4 rfl Tryz.call165 rfl (m9 _ _ _ (by omega) (by omega)) (A9 (A7 rfl hc) (A9 (A7 rfl hc) (A9 (A7 rfl hc) C6)))) ?_
  refine D3 rfl (F2 rfl rfl rfl) (fun hc => I3 rfl (A7 rfl hc)) ?_
  refine B4 rfl rfl (M5 rfl (A0 rfl) (E9 rfl)) ?_
  refine B4 rfl rfl (C3 rfl (A0 rfl)) ?_
  refine D3 rfl (F2 rfl rfl rfl) (fun hc => C3 rfl (A0 rfl)) ?_
  refine D3 rfl (F2 rfl rfl rfl) (fun hc => P8 rfl (A7 rfl hc) B3) ?_
  refine D3 rfl (F2 rfl rfl rfl) (fun hc => C3 rfl (A7 rfl hc)) ?_
  refine D3 rfl (C9 rfl rfl rfl) (fun hc => B2 1 rfl F6 rfl K2 (A0 rfl) rfl) ?_
  refine D3 rfl (C9 rfl rfl rfl) (fun hc => B0 1 rfl (A7 rfl hc) rfl L6 rfl) ?_
  refine D3 rfl (C9 rfl rfl rfl) (fun hc => C3 rfl (A0 rfl)) ?_
  refine D3 rfl (C9 rfl rfl rfl) (fun hc => L1 rfl (A7 rfl hc) B3 (by first | omega | ((try simp only [D1, B1, szR] at *); omega) | (have hc2 := hc; simp only [L4, beq_iff_eq, bne_iff_ne, A6, G2] at hc2; omega))) ?_
  refine D3 rfl (C9 rfl rfl rfl) (fun hc => H8 rfl H2 I7 (A7 rfl hc) (A7 rfl hc) hy (by first | omega | ((try simp only [D1, B1, szR] at *); omega) | (have hc2 := hc; simp only [L4, beq_iff_eq, bne_iff_ne, A6, G2] at hc2; omega))) ?_
  refine D3 rfl (C9 rfl rfl rfl) (fun hc => P9 rfl H3 rfl C2 (A7 rfl hc) rfl) ?_
  refine D3 rfl (C9 rfl rfl rfl) (fun hc => I9 rfl (A7 rfl hc) D0 rfl) ?_
  refine D3 rfl (C9 rfl rfl rfl) (fun hc => B2 0 rfl H3 rfl C2 (A0 rfl) rfl) ?_
  refine D3 rfl (C9 rfl rfl rfl) (fun hc => B0 0 rfl (A7 rfl hc) rfl D0 rfl) ?_
  refine D3 rfl (C9 rfl rfl rfl) (fun hc => R8 rfl (A7 rfl hc) (A7 rfl hc)) ?_
  refine D3 rfl (F2 rfl rfl rfl) (fun hc => G4 rfl (A7 rfl hc) (K4 rfl hc)) ?_
  refine B4 rfl rfl (M5 rfl (A0 rfl) (E9 rfl)) ?_
  refine M6 ?_
  refine B8 (A0 rfl) ?_ ?_
  ·intro h42
   have hfin : l3Cell c = false := by unfold l3Cell; rw [hinv.2]; cases hg : verGoodS c.Key x with | false => (rw [W5 hx hg]; simp) | true => (have hb : 0 < i ∧ verLess y x = false := (by unfold verGoodS at hg; unfold verLess; simp_all; try grind); rw [X9 hx hy hb.1 hb.2]; simp)
   refine A3 (A2 ?_)
   refine A1 rfl (A8 rfl D8) ?_
   refine A4 ?_
   refine B7 ?_
   exact D7 rfl (B6 rfl (by first | exact congrArg AV.bool hfin.symm | exact congrArg AV.bool (by unfold l3Cell; rw [hinv.2, R6 hge, R5 hge]; simp)))
  intro h42
  have hg : verGoodS c.Key x = true ∧ (0 < i → verLess y x = true) := by unfold verGoodS verLess; simp_all
  refine B9 (A2 ?_)
  refine A1 rfl (G6 rfl (A0 rfl) B3 (by first | omega | (simp only [D1, B1, szR] at *; omega))) ?_
  refine A5 rfl ?_
  refine A4 ?_
  refine G9 i (i + 1) ?_ ?_ (N0 1 ⟨rfl, rfl, rfl, rfl, trivial⟩)
  ·exact ⟨by omega, by rw [hinv.2, Y0 hx hg.1, X8 hx hy hg.2]⟩
  omega
 intro h9
 have k9 := of_decide_eq_false h9; try simp only [A6] at k9
 have hge : c.Vers.length ≤ i := by omega
 refine F3 ?_
 refine A3 (A2 ?_)
 refine A1 rfl (B2 0 rfl F6 rfl D2 (A0 rfl) rfl) ?_
 refine A1 rfl (B0 0 rfl (A0 rfl) rfl E5 rfl) ?_
 refine A1 rfl (D4 rfl Tryz.call198 rfl (i9 _ (by omega)) (A9 (A0 rfl) C6)) ?_
 refine A5 rfl ?_
 refine C4 rfl (fun hc => B2 1 rfl F6 rfl K2 (A0 rfl) rfl) ?_
 refine C4 rfl (fun hc => B0 0 rfl (A7 rfl hc) rfl L6 rfl) ?_
 refine C4 rfl (fun hc => E4 rfl H2 (A7 rfl hc)) ?_
 refine C4 rfl (fun hc => D4 rfl Tryz.call39 rfl (P7 _ _ _) (A9 (A7 rfl hc) (A9 B3 (A9 B3 C6)))) ?_
 refine A1 rfl (G4 rfl (A0 rfl) (E9 rfl)) ?_
 refine B5 rfl ?_
 refine A4 ?_
 refine B7 ?_
 exact D7 rfl (B6 rfl (by first | exact congrArg AV.bool hfin.symm | exact congrArg AV.bool (by unfold l3Cell; rw [hinv.2, R6 hge, R5 hge]; simp)))
theorem z7 (l : List TCell) (hs : sizeL TCell.size l ≤ 4194304) : FSpec Tryz.prog 77 [AV.list 2 (l.map TCell.cs)] (AV.bool (goodCells l)) := by
 have hl : l.length ≤ 4194304 := Nat.le_trans K9 hs
 have hks : ∀ k ∈ cKeys l, k.length ≤ 4611686018427387904 := fun k hk => by
  obtain ⟨w, hw, rfl⟩ := List.mem_map.1 hk
  have := c9 (Nat.le_trans (X2 hw) hs)
  omega
 refine C1 Tryz.func77 rfl Tryz.ntmps77 rfl ?_
 refine A3 (A2 ?_)
 refine A1 rfl (A8 rfl D8) ?_
 refine A4 (A3 (A2 ?_))
 refine V9 rfl rfl rfl rfl C7 D2 ?_
 intro v6
 refine B5 rfl ?_
 refine A4 (A3 (A3 (A2 ?_)))
 refine A5 rfl ?_
 refine A1 rfl (E4 rfl F1 (A0 rfl)) ?_
 refine A1 rfl (C3 rfl B3) ?_
 refine A4 (C5 ?_)
 refine M3 [(0, _), (7, _), (8, _)] _ (fun (i : Nat) (v : Value) => i ≤ l.length ∧ l.all isCell = (l.drop i).all isCell) (fun (i : Nat) (v : Value) => [.arr v 9 1 ((l.take i).map fun w => [AV.str w.Key])]) (fun (i : Nat) (v : Value) => [(3, AV.is v), (9, AV.int i)]) (fun (i : Nat) (v : Value) => l.length - i) (0) (v6) ?_ (M7 (by rfl) ⟨rfl, rfl, rfl, rfl, rfl, trivial⟩) ?_
 ·exact ⟨Nat.zero_le _, rfl⟩
 intro i v hinv
 refine A3 (A2 ?_)
 refine A1 rfl (F8 rfl (A0 rfl) (A0 rfl)) ?_
 refine A4 (A3 ?_)
 refine B8 (A0 rfl) ?_ ?_
 ·intro h10
  have k10 := of_decide_eq_true h10; try simp only [A6] at k10
  have hlt : i < l.length := by omega
  obtain ⟨x, hx⟩ := get_some hlt
  have hsx : x.size ≤ 4194304 := Nat.le_trans (O3 hx) hs
  refine B9 (A3 (C5 (A3 (A2 ?_))))
  refine A1 rfl (H8 rfl F1 E8 (A0 rfl) (A0 rfl) hx (by first | omega | (simp only [D1, B1, szR] at *; omega))) ?_
  refine A1 rfl (G8 rfl (A0 rfl) L2 E8) ?_
  refine H4 rfl rfl rfl rfl Tryz.zeroValue125 rfl ?_
  intro b5
  refine H1 0 rfl rfl rfl (A0 rfl) (A0 rfl) (I6 _) rfl E8 rfl ?_
  refine A4 (A3 (A3 (A2 ?_)))
  refine A1 rfl (M0 0 rfl (A0 rfl) rfl L2 E8 rfl) ?_
  refine A1 rfl (D4 rfl Tryz.call118 rfl (AL1 _ (by first | assumption | omega)) (A9 (A0 rfl) C6)) ?_
  refine A1 rfl (I3 rfl (A0 rfl)) ?_
  refine A4 ?_
  refine B8 (A0 rfl) ?_ ?_
  ·intro h15
   refine A3 (A2 ?_)
   refine A1 rfl (A8 rfl D8) ?_
   refine A4 ?_
   refine B7 ?_
   exact D7 rfl (B6 rfl (by first | exact congrArg AV.bool (by unfold goodCells; rw [hinv.2, W5 hx (by simpa using h15)]; rfl) | exact congrArg AV.bool (by unfold goodCells; rw [hinv.2, R6 hge, A6]; simp)))
  intro h15
  refine B9 (A2 ?_)
  refine A5 rfl ?_
  refine A1 rfl (B2 0 rfl F6 rfl D2 (A0 rfl) rfl) ?_
  refine A1 rfl (B0 0 rfl (A0 rfl) rfl E5 rfl) ?_
  refine A1 rfl (c5 rfl C7 D2 Tryz.zeroValue9 rfl rfl rfl rfl (O2 (A0 rfl) (U8 _) Z1) rfl rfl) ?_
  refine S0 (by' := 16) 1 rfl rfl rfl rfl C7 Tryz.type9 rfl rfl rfl rfl rfl rfl (A0 rfl) (A0 rfl) rfl (by first | omega | (simp only [D1, B1, szR] at *; omega)) ?_
  intro v20_1
  refine B5 rfl ?_
  refine A4 (A2 ?_)
  refine A1 rfl (G6 rfl (A0 rfl) B3 (by first | omega | (simp only [D1, B1, szR] at *; omega))) ?_
  refine A5 rfl ?_
  refine A4 ?_
  refine L8 i v (i + 1) (v20_1) ?_ ?_ (S1 1 (by exact congrArg (fun z => [Own.arr v20_1 9 1 z]) (j5 (f := fun w : TCell => [AV.str w.Key]) hx)) ⟨rfl, rfl, rfl, rfl, rfl, trivial⟩)
  ·exact ⟨by omega, by rw [hinv.2, Y0 hx (by simpa using h15)]⟩
  omega
 intro h10
 have k10 := of_decide_eq_false h10; try simp only [A6] at k10
 have hge : l.length ≤ i := by omega
 rw [List.take_of_length_le hge, show (l.map fun w => [AV.str w.Key]) = (cKeys l).map (fun k => [AV.str k]) from by unfold cKeys; rw [List.map_map]; rfl]
 refine F3 ?_
 refine A3 (A2 ?_)
 refine A5 rfl ?_
 refine A1 rfl (E4 rfl F1 (A0 rfl)) ?_
 refine A1 rfl (O6 rfl (A0 rfl) B3) ?_
 refine A5 rfl ?_
 refine C4 rfl (fun hc => C3 rfl (A0 rfl)) ?_
 refine C4 rfl (fun hc => n7 rfl Tryz.call119 rfl (Y3 (cKeys l) hks) (E1 _) (R9 (AN8 0 (A7 rfl hc) rfl) X5)) ?_
 refine A1 rfl (G4 rfl (A0 rfl) (E9 rfl)) ?_
 refine B5 rfl ?_
 refine A4 ?_
 refine B7 ?_
 exact D7 rfl (B6 rfl (by first | exact congrArg AV.bool (by unfold goodCells; rw [hinv.2, W5 hx (by simpa using h15)]; rfl) | exact congrArg AV.bool (by unfold goodCells; rw [hinv.2, R6 hge, A6]; simp)))
theorem AL3 (l : List TCell) (hs : sizeL TCell.size l ≤ 4194304) : FSpec Tryz.prog 125 [AV.list 2 (l.map TCell.cs)] (AV.bool (l3Good l)) := by
 refine C1 Tryz.func125 rfl Tryz.ntmps125 rfl ?_
 refine J7 (t := 0) rfl fun hl => ?_
 try simp only [A6] at hl
 refine A3 (A2 ?_)
 refine A1 rfl (A8 rfl D8) ?_
 refine A4 (A3 (A3 (A2 ?_)))
 refine A5 rfl ?_
 refine A1 rfl (E4 rfl F1 (A0 rfl)) ?_
 refine A1 rfl (C3 rfl B3) ?_
 refine A4 (C5 ?_)
 refine G0 [(0, _), (5, _), (6, _)] _ (fun (i : Nat) => i ≤ l.length ∧ (l.all l3Cell && adj cLess l) = ((l.drop i).all l3Cell && adj cLess (l.drop (i - 1)))) (fun (i : Nat) => []) (fun (i : Nat) => [(7, AV.int i)]) (fun (i : Nat) => l.length - i) (0) ?_ (G1 ⟨rfl, rfl, rfl, rfl, trivial⟩) ?_
 ·exact ⟨Nat.zero_le _, rfl⟩
 intro i hinv
 refine A3 (A2 ?_)
 refine A1 rfl (F8 rfl (A0 rfl) (A0 rfl)) ?_
 refine A4 (A3 ?_)
 refine B8 (A0 rfl) ?_ ?_
 ·intro h8
  have k8 := of_decide_eq_true h8; try simp only [A6] at k8
  have hlt : i < l.length := by omega
  obtain ⟨x, hx⟩ := get_some hlt
  obtain ⟨y, hy⟩ := get_some (show i - 1 < l.length by omega)
  have hsx : x.size ≤ 4194304 := Nat.le_trans (O3 hx) hs
  refine B9 (A3 (C5 (A3 (A2 ?_))))
  refine A5 rfl ?_
  refine A1 rfl (H8 rfl F1 E8 (A0 rfl) (A0 rfl) hx (by first | omega | (simp only [D1, B1, szR] at *; omega))) ?_
  refine A1 rfl (G8 rfl (A0 rfl) L2 E8) ?_
  refine H4 rfl rfl rfl rfl Tryz.zeroValue125 rfl ?_
  intro b4
  refine B5 rfl ?_
  refine H1 0 rfl rfl rfl (A0 rfl) (A0 rfl) (I6 _) rfl E8 rfl ?_
  refine A4 (A3 ?_)
  refine H5 (by kernel_rfl) (by kernel_rfl) rfl ?_
  refine B4 rfl rfl (M0 0 rfl (A0 rfl) rfl L2 E8 rfl) ?_
  refine B4 rfl rfl (D4 rfl Tryz.call176 rfl (AL2 _ (by first | assumption | omega)) (A9 (A0 rfl) C6)) ?_
  refine B4 rfl rfl (I3 rfl (A0 rfl)) ?_
  refine B4 rfl rfl (C3 rfl (A0 rfl)) ?_
  refine D3 rfl (F2 rfl rfl rfl) (fun hc => C3 rfl (A0 rfl)) ?_
  refine D3 rfl (F2 rfl rfl rfl) (fun hc => P8 rfl (A7 rfl hc) B3) ?_
  refine D3 rfl (F2 rfl rfl rfl) (fun hc => C3 rfl (A7 rfl hc)) ?_
  refine D3 rfl (C9 rfl rfl rfl) (fun hc => C3 rfl (A0 rfl)) ?_
  refine D3 rfl (C9 rfl rfl rfl) (fun hc => C3 rfl (A0 rfl)) ?_
  refine D3 rfl (C9 rfl rfl rfl) (fun hc => L1 rfl (A7 rfl hc) B3 (by first | omega | ((try simp only [D1, B1, szR] at *); omega) | (have hc2 := hc; simp only [L4, beq_iff_eq, bne_iff_ne, A6, G2] at hc2; omega))) ?_
  refine D3 rfl (C9 rfl rfl rfl) (fun hc => H8 rfl F1 E8 (A7 rfl hc) (A7 rfl hc) hy (by first | omega | ((try simp only [D1, B1, szR] at *); omega) | (have hc2 := hc; simp only [L4, beq_iff_eq, bne_iff_ne, A6, G2] at hc2; omega))) ?_
  refine D3 rfl (C9 rfl rfl rfl) (fun hc => P9 rfl F6 rfl D2 (A7 rfl hc) rfl) ?_
  refine D3 rfl (C9 rfl rfl rfl) (fun hc => I9 rfl (A7 rfl hc) E5 rfl) ?_
  refine D3 rfl (C9 rfl rfl rfl) (fun hc => B2 0 rfl F6 rfl D2 (A0 rfl) rfl) ?_
  refine D3 rfl (C9 rfl rfl rfl) (fun hc => B0 0 rfl (A7 rfl hc) rfl E5 rfl) ?_
  refine D3 rfl (C9 rfl rfl rfl) (fun hc => AF6 rfl (A7 rfl hc) (A7 rfl hc)) ?_
  refine D3 rfl (F2 rfl rfl rfl) (fun hc => G4 rfl (A7 rfl hc) (K4 rfl hc)) ?_
  refine B4 rfl rfl (M5 rfl (A0 rfl) (E9 rfl)) ?_
  refine M6 ?_
  refine B8 (A0 rfl) ?_ ?_
  ·intro h29
   have hfin : l3Good l = false := by unfold l3Good; rw [hinv.2]; cases hg : l3Cell x with | false => (rw [W5 hx hg]; simp) | true => (have hb : 0 < i ∧ cLess y x = false := (by unfold cLess; simp_all; try grind); rw [X9 hx hy hb.1 hb.2]; simp)
   refine A3 (A2 ?_)
   refine A1 rfl (A8 rfl D8) ?_
   refine A4 ?_
   refine B7 ?_
   exact D7 rfl (B6 rfl (by first | exact congrArg AV.bool hfin.symm | exact congrArg AV.bool (by unfold l3Good; rw [hinv.2, R6 hge, R5 hge, A6]; simp)))
  intro h29
  have hg : l3Cell x = true ∧ (0 < i → cLess y x = true) := by unfold cLess; simp_all
  refine B9 (A2 ?_)
  refine A1 rfl (G6 rfl (A0 rfl) B3 (by first | omega | (simp only [D1, B1, szR] at *; omega))) ?_
  refine A5 rfl ?_
  refine A4 ?_
  refine G9 i (i + 1) ?_ ?_ (N0 1 ⟨rfl, rfl, rfl, rfl, trivial⟩)
  ·exact ⟨by omega, by rw [hinv.2, Y0 hx hg.1, X8 hx hy hg.2]⟩
  omega
 intro h8
 have k8 := of_decide_eq_false h8; try simp only [A6] at k8
 have hge : l.length ≤ i := by omega
 refine F3 ?_
 refine A3 (A2 ?_)
 refine A5 rfl ?_
 refine A1 rfl (E4 rfl F1 (A0 rfl)) ?_
 refine A1 rfl (O6 rfl (A0 rfl) B3) ?_
 refine B5 rfl ?_
 refine A4 ?_
 refine B7 ?_
 exact D7 rfl (B6 rfl (by first | exact congrArg AV.bool hfin.symm | exact congrArg AV.bool (by unfold l3Good; rw [hinv.2, R6 hge, R5 hge, A6]; simp)))
theorem z8 (c : TCell) (k : Str) : FSpec Tryz.prog 173 [AV.agg c.cs, AV.str k] (AV.int (cCmp k c)) := by
 refine C1 Tryz.func173 rfl Tryz.ntmps173 rfl ?_
 refine A3 (A2 ?_)
 refine I2 rfl rfl rfl rfl (A0 rfl) ?_
 intro b2
 refine A1 rfl (A8 rfl B3) ?_
 refine A4 (A3 (A2 ?_))
 refine A1 rfl (B2 0 rfl F6 rfl D2 (A0 rfl) rfl) ?_
 refine A1 rfl (B0 0 rfl (A0 rfl) rfl E5 rfl) ?_
 refine A5 rfl ?_
 refine A1 rfl (D4 rfl Tryz.call105 rfl (o8 _ _) (A9 (A0 rfl) (A9 (A0 rfl) C6))) ?_
 refine B5 rfl ?_
 refine A4 ?_
 refine B7 ?_
 exact D7 rfl (B6 rfl (by first | rfl | (refine congrArg AV.bool ?_; simp_all; done)))
theorem k5 (l : List TCell) (k : Str) (hs : l.length ≤ 4611686018427387903) : FSpec Tryz.prog 122 [AV.list 2 (l.map TCell.cs), AV.str k] (AV.tup [AV.int (cPos l k), AV.bool (cHas l k)]) := by
 refine C1 Tryz.func122 rfl Tryz.ntmps122 rfl ?_
 refine A3 (A2 ?_)
 refine A1 rfl (A8 rfl B3) ?_
 refine A1 rfl (A8 rfl D8) ?_
 refine A4 (A3 (A2 ?_))
 refine A5 rfl ?_
 refine A5 rfl ?_
 refine A1 rfl (D4 rfl Tryz.call172 rfl (g6 _ _ _ (by first | (intros; trivial) | assumption | (intros; first | trivial | (simp_all; done))) _ (by omega)) (A9 (A0 rfl) (A9 (A0 rfl) (A9 (x5 Tryz.call173 (fun c k (_ : True) => z8 c k)) C6)))) ?_
 refine A1 rfl (K8 rfl (A0 rfl) rfl) ?_
 refine A1 rfl (K8 rfl (A0 rfl) rfl) ?_
 refine B5 rfl ?_
 refine B5 rfl ?_
 refine A4 ?_
 refine B7 ?_
 exact W1 rfl (by decide) (K5 (B6 rfl (by first | rfl | (refine congrArg AV.bool ?_; simp_all; done))) (K5 (B6 rfl (by first | rfl | (refine congrArg AV.bool ?_; simp_all; done))) Q9))
theorem AC6 {c : TCell} (h : 1 ≤ c.Vers.length) : ∃ v, c.Vers[c.Vers.length - 1]? = some v ∧ lastV c = v.Time := by
  obtain ⟨v, hv⟩ := get_some (show c.Vers.length - 1 < c.Vers.length by omega)
  refine ⟨v, hv, ?_⟩
  unfold lastV; rw [List.getLast?_eq_getElem?, hv]
theorem k6 (l : List TCell) (k : Str) (ho : CellsOk l) (hs : sizeL TCell.size l ≤ 4194304) : FSpec Tryz.prog 92 [AV.list 2 (l.map TCell.cs), AV.str k] (AV.int (lastTime l k)) := by
 have hl : l.length ≤ 4194304 := Nat.le_trans K9 hs
 refine C1 Tryz.func92 rfl Tryz.ntmps92 rfl ?_
 refine A3 (A2 ?_)
 refine A1 rfl (A8 rfl B3) ?_
 refine A4 (A3 (A2 ?_))
 refine A5 rfl ?_
 refine A5 rfl ?_
 refine A1 rfl (D4 rfl Tryz.call122 rfl (k5 _ _ (by first | assumption | omega)) (A9 (A0 rfl) (A9 (A0 rfl) C6))) ?_
 refine A5 rfl ?_
 refine A1 rfl (K8 rfl (A0 rfl) rfl) ?_
 refine A1 rfl (K8 rfl (A0 rfl) rfl) ?_
 refine B5 rfl ?_
 refine B5 rfl ?_
 refine A4 (A3 (A3 (A2 ?_)))
 refine A5 rfl ?_
 refine A1 rfl (I3 rfl (A0 rfl)) ?_
 refine A4 ?_
 refine B8 (A0 rfl) ?_ ?_
 ·intro h14
  have hn : cHas l k = false := by simpa using h14
  have he : lastTime l k = 0 := by unfold lastTime; rw [r6 ho.1, hn]; rfl
  rw [he]
  refine A3 (A2 ?_)
  refine A1 rfl (A8 rfl B3) ?_
  refine A4 ?_
  refine B7 ?_
  exact D7 rfl (B6 rfl (by first | rfl | (refine congrArg AV.bool ?_; simp_all; done)))
 intro h14
 have hn : cHas l k = true := by simpa using h14
 obtain ⟨c, hc, hck⟩ := i7.1 hn
 obtain ⟨v, hv, hlv⟩ := AC6 (ho.2 c (H0 hc))
 have hcl := c9 (Nat.le_trans (O3 hc) hs)
 have hc1 := ho.2 c (H0 hc)
 have he : lastTime l k = v.Time := by unfold lastTime; rw [r6 ho.1, hn, if_pos rfl, hc]; exact hlv
 rw [he]
 refine B9 (A3 ?_)
 refine H5 (by kernel_rfl) (by kernel_rfl) rfl ?_
 refine B4 rfl rfl (C3 rfl (A0 rfl)) ?_
 refine B4 rfl rfl (C3 rfl (A0 rfl)) ?_
 refine B4 rfl rfl (H8 rfl F1 E8 (A0 rfl) (A0 rfl) hc (by first | omega | (simp only [D1, B1, szR] at *; omega))) ?_
 refine B4 rfl rfl (P9 rfl F6 rfl K2 (A0 rfl) rfl) ?_
 refine B4 rfl rfl (I9 rfl (A0 rfl) L6 rfl) ?_
 refine B4 rfl rfl (C3 rfl (A0 rfl)) ?_
 refine B4 rfl rfl (C3 rfl (A0 rfl)) ?_
 refine B4 rfl rfl (H8 rfl F1 E8 (A0 rfl) (A0 rfl) hc (by first | omega | (simp only [D1, B1, szR] at *; omega))) ?_
 refine B4 rfl rfl (P9 rfl F6 rfl K2 (A0 rfl) rfl) ?_
 refine B4 rfl rfl (I9 rfl (A0 rfl) L6 rfl) ?_
 refine B4 rfl rfl (E4 rfl H2 (A0 rfl)) ?_
 refine B4 rfl rfl (L1 rfl (A0 rfl) B3 (by first | omega | (simp only [D1, B1, szR] at *; omega))) ?_
 refine B4 rfl rfl (H8 rfl H2 I7 (A0 rfl) (A0 rfl) hv (by first | omega | (simp only [D1, B1, szR] at *; omega))) ?_
 refine B4 rfl rfl (P9 rfl H3 rfl C2 (A0 rfl) rfl) ?_
 refine B4 rfl rfl (I9 rfl (A0 rfl) D0 rfl) ?_
 refine B4 rfl rfl (A8 rfl (A0 rfl)) ?_
 refine M6 ?_
 refine B7 ?_
 exact D7 rfl (B6 rfl (by first | rfl | (refine congrArg AV.bool ?_; simp_all; done)))
theorem AC7 (l : List TCell) (k : Str) : FSpec Tryz.prog 180 [AV.list 2 (l.map TCell.cs), AV.str k] (AV.int (atC l k)) := by
 refine C1 Tryz.func180 rfl Tryz.ntmps180 rfl ?_
 refine J7 (t := 0) rfl fun hl => ?_
 try simp only [A6] at hl
 refine A3 (A2 ?_)
 refine A1 rfl (A8 rfl B3) ?_
 refine A4 (A3 (A3 (A2 ?_)))
 refine A5 rfl ?_
 refine A1 rfl (E4 rfl F1 (A0 rfl)) ?_
 refine A1 rfl (C3 rfl B3) ?_
 refine A4 (C5 ?_)
 refine G0 [(1, _), (7, _), (8, _)] _ (fun (i : Nat) => i ≤ l.length ∧ ∀ j x, j < i → l[j]? = some x → x.Key ≠ k) (fun (i : Nat) => []) (fun (i : Nat) => [(9, AV.int i)]) (fun (i : Nat) => l.length - i) (0) ?_ (G1 ⟨rfl, rfl, rfl, rfl, trivial⟩) ?_
 ·exact ⟨Nat.zero_le _, fun j x h => by omega⟩
 intro i hinv
 refine A3 (A2 ?_)
 refine A1 rfl (F8 rfl (A0 rfl) (A0 rfl)) ?_
 refine A4 (A3 ?_)
 refine B8 (A0 rfl) ?_ ?_
 ·intro h10
  have k10 := of_decide_eq_true h10; try simp only [A6] at k10
  have hlt : i < l.length := by omega
  obtain ⟨x, hx⟩ := get_some hlt
  refine B9 (A3 (C5 (A3 (A2 ?_))))
  refine A5 rfl ?_
  refine A1 rfl (H8 rfl F1 E8 (A0 rfl) (A0 rfl) hx (by first | omega | (simp only [D1, B1, szR] at *; omega))) ?_
  refine A1 rfl (G8 rfl (A0 rfl) L2 E8) ?_
  refine H4 rfl rfl rfl rfl Tryz.zeroValue125 rfl ?_
  intro b6
  refine B5 rfl ?_
  refine H1 0 rfl rfl rfl (A0 rfl) (A0 rfl) (I6 _) rfl E8 rfl ?_
  refine A4 (A3 (A2 ?_))
  refine A1 rfl (B2 0 rfl F6 rfl D2 (A0 rfl) rfl) ?_
  refine A1 rfl (B0 0 rfl (A0 rfl) rfl E5 rfl) ?_
  refine A5 rfl ?_
  refine A1 rfl (c2 rfl (A0 rfl) (A0 rfl)) ?_
  refine A4 ?_
  refine B8 (A0 rfl) ?_ ?_
  ·intro h17
   refine A3 (A2 ?_)
   refine A5 rfl ?_
   refine B5 rfl ?_
   refine A4 ?_
   refine B7 ?_
   exact D7 rfl (B6 rfl (by first | exact congrArg AV.int (AG3 hx (by simpa using h17) hinv.2).symm | exact congrArg AV.int (AG4 fun j x hx => hinv.2 j x (Nat.lt_of_lt_of_le (List.getElem?_eq_some_iff.1 hx).1 hge) hx).symm))
  intro h17
  refine B9 (A2 ?_)
  refine A1 rfl (G6 rfl (A0 rfl) B3 (by first | omega | (simp only [D1, B1, szR] at *; omega))) ?_
  refine A5 rfl ?_
  refine A4 ?_
  refine G9 i (i + 1) ?_ ?_ (N0 1 ⟨rfl, rfl, rfl, rfl, trivial⟩)
  ·exact ⟨by omega, fun j y hj hy => if hji : j < i then hinv.2 j y hji hy else (by have e : j = i := (by omega); subst e; rw [hx] at hy; injection hy with hy; subst hy; simpa using h17)⟩
  omega
 intro h10
 have k10 := of_decide_eq_false h10; try simp only [A6] at k10
 have hge : l.length ≤ i := by omega
 refine F3 ?_
 refine A3 (A2 ?_)
 refine A1 rfl (A8 rfl B3) ?_
 refine A4 ?_
 refine B7 ?_
 exact D7 rfl (B6 rfl (by first | exact congrArg AV.int (AG3 hx (by simpa using h17) hinv.2).symm | exact congrArg AV.int (AG4 fun j x hx => hinv.2 j x (Nat.lt_of_lt_of_le (List.getElem?_eq_some_iff.1 hx).1 hge) hx).symm))
theorem o9 (l : List TCell) (k : Str) (ho : CellsOk l) (hs : sizeL TCell.size l ≤ 4194304) : FSpec Tryz.prog 127 [AV.list 2 (l.map TCell.cs), AV.str k] (AV.int (lastTime l k)) := by
 have hl : l.length ≤ 4194304 := Nat.le_trans K9 hs
 refine C1 Tryz.func127 rfl Tryz.ntmps127 rfl ?_
 refine A3 (A2 ?_)
 refine A1 rfl (A8 rfl B3) ?_
 refine A4 (A3 (A2 ?_))
 refine A5 rfl ?_
 refine A5 rfl ?_
 refine A1 rfl (D4 rfl Tryz.call180 rfl (AC7 _ _) (A9 (A0 rfl) (A9 (A0 rfl) C6))) ?_
 refine B5 rfl ?_
 refine A4 (A3 (A3 (A2 ?_)))
 refine A5 rfl ?_
 refine A1 rfl (F8 rfl (A0 rfl) B3) ?_
 refine A4 ?_
 refine B8 (A0 rfl) ?_ ?_
 ·intro h10
  have k10 := of_decide_eq_true h10; try simp only [A6] at k10
  have hn : findC l k = none := AO4 k10
  have he : lastTime l k = 0 := by unfold lastTime; rw [hn]
  rw [he]
  refine A3 (A2 ?_)
  refine A1 rfl (A8 rfl B3) ?_
  refine A4 ?_
  refine B7 ?_
  exact D7 rfl (B6 rfl (by first | rfl | (refine congrArg AV.bool ?_; simp_all; done)))
 intro h10
 have k10 := of_decide_eq_false h10; try simp only [A6] at k10
 obtain ⟨p, c, hp, hc, hf⟩ := AO5 k10
 rw [hp]
 obtain ⟨v, hv, hlv⟩ := AC6 (ho.2 c (H0 hc))
 have hcl := c9 (Nat.le_trans (O3 hc) hs)
 have hc1 := ho.2 c (H0 hc)
 have he : lastTime l k = v.Time := by unfold lastTime; rw [hf]; exact hlv
 rw [he]
 refine B9 (A3 ?_)
 refine H5 (by kernel_rfl) (by kernel_rfl) rfl ?_
 refine B4 rfl rfl (C3 rfl (A0 rfl)) ?_
 refine B4 rfl rfl (C3 rfl (A0 rfl)) ?_
 refine B4 rfl rfl (H8 rfl F1 E8 (A0 rfl) (A0 rfl) hc (by first | omega | (simp only [D1, B1, szR] at *; omega))) ?_
 refine B4 rfl rfl (P9 rfl F6 rfl K2 (A0 rfl) rfl) ?_
 refine B4 rfl rfl (I9 rfl (A0 rfl) L6 rfl) ?_
 refine B4 rfl rfl (C3 rfl (A0 rfl)) ?_
 refine B4 rfl rfl (C3 rfl (A0 rfl)) ?_
 refine B4 rfl rfl (H8 rfl F1 E8 (A0 rfl) (A0 rfl) hc (by first | omega | (simp only [D1, B1, szR] at *; omega))) ?_
 refine B4 rfl rfl (P9 rfl F6 rfl K2 (A0 rfl) rfl) ?_
 refine B4 rfl rfl (I9 rfl (A0 rfl) L6 rfl) ?_
 refine B4 rfl rfl (E4 rfl H2 (A0 rfl)) ?_
 refine B4 rfl rfl (L1 rfl (A0 rfl) B3 (by first | omega | (simp only [D1, B1, szR] at *; omega))) ?_
 refine B4 rfl rfl (H8 rfl H2 I7 (A0 rfl) (A0 rfl) hv (by first | omega | (simp only [D1, B1, szR] at *; omega))) ?_
 refine B4 rfl rfl (P9 rfl H3 rfl C2 (A0 rfl) rfl) ?_
 refine B4 rfl rfl (I9 rfl (A0 rfl) D0 rfl) ?_
 refine B4 rfl rfl (A8 rfl (A0 rfl)) ?_
 refine M6 ?_
 refine B7 ?_
 exact D7 rfl (B6 rfl (by first | rfl | (refine congrArg AV.bool ?_; simp_all; done)))
end Go.Proofs.YtkegepoihkhihaaGreat

namespace Go.AV
section
variable {P : Program} {G : Nat → Prop} {n : Nat} {own : List Own} {o : Oper}
theorem AU1 {rest : List Own} : ∀ b, (fun _ : Nat => False) b → b ∈ rest.filterMap Own.blk := fun _ h => h.elim
theorem gin_nil {rest : List Own} : ∀ b, blksOf [] b → b ∈ rest.filterMap Own.blk := fun _ ⟨_, h, _⟩ => by simp at h
theorem gin_cons {q q' : Own} {ow rest : List Own} (i : Nat) (h : rest[i]? = some q') (hb : Own.blk q = Own.blk q') (k : ∀ b, blksOf ow b → b ∈ rest.filterMap Own.blk) : ∀ b, blksOf (q :: ow) b → b ∈ rest.filterMap Own.blk := fun b ⟨x, hx, hxb⟩ => by
  rcases List.mem_cons.1 hx with rfl | hx
  · exact List.mem_filterMap.2 ⟨q', H0 h, hb ▸ hxb⟩
  · exact k b ⟨x, hx, hxb⟩
theorem u6 {sel rest : List Own} {w0 : World} {R0 R : RHeap} {w : World} (h : Core G w0 R0 (sel ++ rest) R w) (hG : ∀ b, G b → b ∈ rest.filterMap Own.blk) : Core G w0 R0 rest (lend sel w R) w := by
  have hl := Q5 h
  refine ⟨h.os, h.tape, h.output, h.size, h.block, x6 hl, fun b hb => ?_, fun q hq => ?_, fun q hq => h.fresh q (List.mem_append_right _ hq), (i5 h).sep⟩
  · unfold lend
    cases hob : ownB sel b with
    | true =>
      obtain ⟨x, hx, hxb⟩ := W9 hob
      rcases h.fresh x (List.mem_append_left _ hx) b hxb with h1 | h1
      · omega
      · obtain ⟨y, hy, hyb⟩ := List.mem_filterMap.1 (hG b h1)
        exact absurd hyb (Z2 h.sep hx hy hxb)
    | false => exact h.rold b hb
  · have hk := h.owned q (List.mem_append_right _ hq)
    refine Own.ok_keep hk (T5 hl) fun b hb => ⟨rfl, ?_⟩
    unfold lend
    cases hob : ownB sel b with
    | true =>
      obtain ⟨x, hx, hxb⟩ := W9 hob
      exact absurd hb (Z2 h.sep hx hq hxb)
    | false => exact (Own.ok_blk hk hb).1
theorem le_sealD {env : List (Nat × AV)} {sel rest : List Own} {x y : AV} (is : List Nat) (t : Nat) (hp : pick own is = (sel, rest)) (ht : getv t env = some x) (hl : LendTo sel x y) (hG : ∀ b, G b → b ∈ rest.filterMap Own.blk) : Le G n ⟨own, env⟩ ⟨rest, (t, y) :: env⟩ := fun w0 R0 R a w ⟨h1, h2, h3⟩ => by
  have hc := X0 h1 hp
  refine ⟨lend sel w R, T5 (Q5 hc), u6 hc hG, fun k z hz => ?_, h3⟩
  simp only [getv] at hz
  by_cases hk : t = k
  · subst hk
    simp [Nat.beq_refl] at hz
    rw [← hz]
    exact hl G w0 R0 R w _ (Q5 hc) (h2 t x ht)
  · rw [X3 hk, cond_false] at hz
    exact z.mono (T5 (Q5 hc)) (h2 k z hz)
theorem r9 {ops : Array Oper} {rest : List Oper} {env : List (Nat × AV)} {K : AState → Prop} {d : Nat} {c : Bool} (hd : o.dst = some d) (hn : Nat.blt d n = true) (hg : GuardIs ops o (getv · env) c)
    (ht : c = true → ASeq P G n ops ({ o with guard := none } :: rest) ⟨own, env⟩ K) (hf : c = false → ASeq P G n ops rest ⟨own, (d, AV.is undef) :: env⟩ K) : ASeq P G n ops (o :: rest) ⟨own, env⟩ K := fun w0 R0 R a w hs => by
  have hgc := hg R a fun t _ y hy => hs.2.1 t y hy
  cases c with
  | true =>
    refine ⟨fun _ => ?_, fun hw => by rw [hgc] at hw; exact Bool.noConfusion hw⟩
    exact (ht rfl w0 R0 R a w hs).1 rfl
  | false =>
    refine ⟨fun hw => by rw [hgc] at hw; exact Bool.noConfusion hw, fun _ => ⟨_, R, hf rfl, RSub.refl _, ?_⟩⟩
    obtain ⟨h1, h2, h3, h4⟩ := hs
    refine ⟨h1, ?_, by rw [N2]; exact h3, by rw [L9]; exact h4⟩
    have := W6 (d := o.dst) (x := AV.is undef) (v := undef) h2 (RSub.refl R) (fun q e => by rw [h3]; rw [hd] at e; injection e with e; subst e; exact Nat.blt_eq.mp hn) rfl
    rw [hd] at this ⊢
    exact this
theorem evif_no {E : EnvF} {p : Operand} {b : Bool} {x : AV} (h : b = false) : EvIf E p b x := fun hb => by rw [h] at hb; cases hb
def bandI (x y : Int) : Int := IntKind.u64.wrap (((BitVec.ofInt IntKind.u64.bits x &&& BitVec.ofInt IntKind.u64.bits y).toNat : Nat) : Int)
end
end Go.AV

namespace Go.AV
section
variable {P : Program} {G : Nat → Prop} {n : Nat} {own : List Own} {o : Oper}
def OwnC (sel : List Own) : Own → Own → Prop
  | .box b t cs, .box b' t' cs' => b = b' ∧ t = t' ∧ LendC sel cs cs'
  | .arr v t sz es, .arr v' t' sz' es' => v = v' ∧ t = t' ∧ sz = sz' ∧ LendE sel es es'
  | .frz b t cs, .frz b' t' cs' => b = b' ∧ t = t' ∧ LendC sel cs cs'
  | .tab T, .tab T' => T = T'
  | _, _ => False
def OwnsC (sel own own' : List Own) : Prop := own.length = own'.length ∧ ∀ (i : Nat) (q q' : Own), own[i]? = some q → own'[i]? = some q' → OwnC sel q q'
theorem oc_blk {sel : List Own} {q q' : Own} (h : OwnC sel q q') : Own.blk q = Own.blk q' := by
  cases q <;> cases q' <;> unfold OwnC at h
  · exact congrArg some h.1
  · exact h.elim
  · exact h.elim
  · exact h.elim
  · exact h.elim
  · exact congrArg Value.ownBlock h.1
  · exact h.elim
  · exact h.elim
  · exact h.elim
  · exact h.elim
  · exact congrArg some h.1
  · exact h.elim
  · exact h.elim
  · exact h.elim
  · exact h.elim
  · rfl
theorem oc_map {sel a b : List Own} (h : OwnsC sel a b) : a.map Own.blk = b.map Own.blk := by
  refine List.ext_getElem? fun i => ?_
  rw [List.getElem?_map, List.getElem?_map]
  cases ha : a[i]? with
  | none =>
    have : b[i]? = none := by rw [List.getElem?_eq_none_iff] at ha ⊢; rw [← h.1]; exact ha
    rw [this]
  | some q =>
    have hi : i < b.length := by rw [← h.1]; exact (List.getElem?_eq_some_iff.1 ha).1
    rw [List.getElem?_eq_getElem hi]
    exact congrArg some (oc_blk (h.2 i q _ ha (List.getElem?_eq_getElem hi)))
theorem oc_fm {sel a b : List Own} (h : OwnsC sel a b) : a.filterMap Own.blk = b.filterMap Own.blk := by
  have := congrArg (List.filterMap id) (oc_map h)
  rwa [List.filterMap_map, List.filterMap_map] at this
theorem n0 {sel : List Own} {xs ys : List AV} {w0 : World} {R0 R : RHeap} {w : World} {vs : List Value} (hc : Core G w0 R0 sel R w) (h : DenC R vs xs) (k : LendC sel xs ys) : DenC (lend sel w R) vs ys :=
  ⟨h.1.trans k.1, fun i v y hv hy => by
    have hi : i < xs.length := by rw [k.1]; exact (List.getElem?_eq_some_iff.1 hy).1
    have hx := List.getElem?_eq_getElem hi
    obtain ⟨h1, h2⟩ := h.2 i v _ hv hx
    exact ⟨k.2 i _ y hx hy G w0 R0 R w v hc h1, h2⟩⟩
theorem AQ8 {sel rest rest' : List Own} {w0 : World} {R0 R : RHeap} {w : World} (h : Core G w0 R0 (sel ++ rest) R w) (hG : ∀ b, G b → b ∈ rest.filterMap Own.blk) (hl : OwnsC sel rest rest') : Core G w0 R0 rest' (lend sel w R) w := by
  have hb := u6 h hG
  have hs := Q5 h
  refine ⟨hb.os, hb.tape, hb.output, hb.size, hb.block, hb.rle, hb.rold, fun q' hq' => ?_, fun q' hq' b hqb => ?_, ?_⟩
  · obtain ⟨i, hi⟩ := List.getElem?_of_mem hq'
    have hir : i < rest.length := by rw [hl.1]; exact (List.getElem?_eq_some_iff.1 hi).1
    have hr := List.getElem?_eq_getElem hir
    have hm := H0 hr
    have hoc := hl.2 i _ q' hr hi
    have k1 := hb.owned _ hm
    have k2 := h.owned _ (List.mem_append_right _ hm)
    revert hoc k1 k2
    generalize rest[i] = q
    intro hoc k1 k2
    cases q <;> cases q' <;> unfold OwnC at hoc
    · obtain ⟨rfl, rfl, hc⟩ := hoc
      obtain ⟨_, vs, hv, hd⟩ := k2
      exact ⟨k1.1, vs, hv, n0 hs hd hc⟩
    · exact hoc.elim
    · exact hoc.elim
    · exact hoc.elim
    · exact hoc.elim
    · obtain ⟨rfl, rfl, rfl, hc⟩ := hoc
      obtain ⟨_, hlen, xs, hx, hd⟩ := k2
      refine ⟨k1.1, fun e he => ?_, xs, ?_, n0 hs hd (x7 hc)⟩
      · obtain ⟨j, hj⟩ := List.getElem?_of_mem he
        have hje := List.getElem?_eq_getElem (show j < _ from hc.1.symm ▸ (List.getElem?_eq_some_iff.1 hj).1)
        rw [← (hc.2 j _ e hje hj).1]
        exact hlen _ (H0 hje)
      · rw [← hc.1]; exact hx
    · exact hoc.elim
    · exact hoc.elim
    · exact hoc.elim
    · exact hoc.elim
    · obtain ⟨rfl, rfl, hc⟩ := hoc
      obtain ⟨_, vs, hv, hd⟩ := k2
      exact ⟨k1.1, vs, hv, n0 hs hd hc⟩
    · exact hoc.elim
    · exact hoc.elim
    · exact hoc.elim
    · exact hoc.elim
    · exact hoc ▸ k1
  · have hm : (some b) ∈ rest'.map Own.blk := List.mem_map.2 ⟨q', hq', hqb⟩
    rw [← oc_map hl] at hm
    obtain ⟨q, hq, hqb2⟩ := List.mem_map.1 hm
    exact hb.fresh q hq b hqb2
  · rw [← oc_fm hl]; exact hb.sep
theorem oc_refl {sel : List Own} (q : Own) : OwnC sel q q := by
  cases q with
  | box b t cs => exact ⟨rfl, rfl, n8⟩
  | arr v t sz es => exact ⟨rfl, rfl, rfl, m0⟩
  | frz b t cs => exact ⟨rfl, rfl, n8⟩
  | tab T => exact rfl
theorem oc_set {sel l : List Own} {i : Nat} {q q' : Own} (hi : l[i]? = some q) (hc : OwnC sel q q') : OwnsC sel l (l.set i q') := ⟨by simp, fun j x y hx hy => by
  by_cases h : i = j
  · subst h
    rw [List.getElem?_set_self (List.getElem?_eq_some_iff.1 hi).1] at hy
    rw [hi] at hx
    injection hx with hx; injection hy with hy; subst hx; subst hy; exact hc
  · rw [List.getElem?_set_ne h, hx] at hy
    injection hy with hy; subst hy; exact oc_refl _⟩
theorem le_sealO {env : List (Nat × AV)} {sel rest : List Own} {q : Own} (is : List Nat) (i : Nat) (q' : Own) (hp : pick own is = (sel, rest)) (hi : rest[i]? = some q) (hc : OwnC sel q q') (hG : ∀ b, G b → b ∈ rest.filterMap Own.blk) : Le G n ⟨own, env⟩ ⟨rest.set i q', env⟩ := fun w0 R0 R a w ⟨h1, h2, h3⟩ => by
  have hk := X0 h1 hp
  exact ⟨lend sel w R, T5 (Q5 hk), AQ8 hk hG (oc_set hi hc), fun t z hz => z.mono (T5 (Q5 hk)) (h2 t z hz), h3⟩
section
variable {T X : Type} {ocs : T → X → List AV} {cs : T → List AV} {ow : T → X → List Own}
end
end
end Go.AV

namespace Go.AV
section
variable {P : Program} {G : Nat → Prop} {n : Nat} {own : List Own} {o : Oper} {E : EnvF}
@[reducible] def byteC (b : UInt8) : List AV := [AV.ik .u8 b.toNat]
end
end Go.AV
