/- Texts of the claim, part 3. -/
import Derived.Lib.ItoaNum
import Derived.Lib.ItoaMem
import Derived.Lib.Split
import Derived.Lib.SplitLaws
import Derived.Lib.AtoiAllCases
import Derived.Lib.Strings
import Derived.Lib.IndexMore
import Derived.Lib.Join
import Derived.Test.YtmggojkfhodjbaaGreatDoorProg
import GoSem.ClaimJoined
import GoSem.ClaimMapViews
import Derived.JoinedTies
import Derived.KernelRfl
import Derived.RowKit
import Derived.Test.YtmggojkfhodjbaaGreatDoorZHistories2
set_option linter.defProp false
set_option linter.unusedVariables false
set_option linter.unusedSimpArgs false
set_option maxRecDepth 100000
set_option maxHeartbeats 4000000
namespace Go.M
open Go.AV
def j6 (t : Int) : Bool := within t 0 100000
def AY1 (v : Y8) : Bool := Aa0 v.Time && AE2 v.Val v.Gone
def AP1 (a b : Y8) : Bool := decide (a.Time < b.Time)
def An0 (c : B6) : Bool := (c.Vers.all AY1 && adj AP1 c.Vers) && within c.Vers.length 1 16
def AB2 (l : List B6) : List Str := l.map B6.Key
def AA6 (l : List B6) : Bool := l.all An0 && (decide ((l.length : Int) ≤ 24) && o8 (AB2 l))
def Ah6 (k : Str) (v : Y8) : Bool := within v.Time 1 100000 && AY0 k v.Val v.Gone
def An1 (c : B6) : Bool := (c.Vers.all (Ah6 c.Key) && adj AP1 c.Vers) && (r5 c.Key && within c.Vers.length 1 16)
def w4 (a b : B6) : Bool := Op.bytesLess a.Key b.Key
def Az2 (l : List B6) : Bool := (l.all An1 && adj w4 l) && decide ((l.length : Int) ≤ 24)
theorem CR4 (c : B6) : (An0 c && q6 c.Key) = An1 c := by
  unfold An0 An1;rw [AA2, AW7];simp only [D8, Y6];have key : ∀ v : Y8, r5 c.Key = true → (AY1 v = true ↔ Ah6 c.Key v = true) := fun v hk => by
    unfold AY1 Ah6 Aa0 AY0;rw [AU5, hk, Bool.true_and]
  constructor
  · rintro ⟨⟨⟨h1, h2⟩, h3⟩, h4⟩
    exact ⟨⟨fun v hv => (key v h4).1 (h1 v hv), h2⟩, h4, h3⟩
  · rintro ⟨⟨h1, h2⟩, h4, h3⟩
    exact ⟨⟨⟨fun v hv => (key v h4).2 (h1 v hv), h2⟩, h3⟩, h4⟩
theorem AI7 (l : List B6) : AA6 l = Az2 l := by
  unfold AA6 Az2 o8 AB2;rw [Bt2, AW7];simp only [D8, Y6, m1, forall_exists_index, and_imp, forall_apply_eq_imp_iff₂];constructor
  · rintro ⟨h1, h2, h3, h4⟩
    exact ⟨⟨fun c hc => by rw [← CR4, h1 c hc, h3 c hc]; rfl, h4⟩, h2⟩
  · rintro ⟨⟨h1, h4⟩, h2⟩
    have h5 : ∀ c ∈ l, An0 c = true ∧ q6 c.Key = true := fun c hc => by
      have := h1 c hc;rw [← CR4] at this;simpa using this
    exact ⟨fun c hc => (h5 c hc).1, h2, fun c hc => (h5 c hc).2, h4⟩
theorem AI3 {l : List B6} (h : AA6 l = true) : l.length ≤ 24 ∧ adj w4 l = true ∧ ∀ c ∈ l, q6 c.Key = true ∧ 1 ≤ c.Vers.length ∧ c.Vers.length ≤ 16 ∧ adj AP1 c.Vers = true ∧ ∀ v ∈ c.Vers, AY1 v = true := by
  rw [AI7] at h;unfold Az2 at h;simp only [D8, Y6, H5] at h;refine ⟨by omega, h.1.2, fun c hc => ?_⟩;have hcell := h.1.1 c hc;rw [← CR4] at hcell;simp only [D8] at hcell;obtain ⟨h1, h2⟩ := hcell;unfold An0 at h1;simp only [D8, Y6] at h1;have h3 := h1.2;unfold within at h3
  simp at h3;exact ⟨h2, by omega, by omega, h1.1.2, h1.1.1⟩
def CE1 (k : Str) (c : B6) : Int := BG3 c.Key k
def AI9 (l : List B6) (k : Str) : Nat := bs (CE1 k) l 0 l.length
def Az3 (l : List B6) (k : Str) : Bool := Am9 (CE1 k) l (AI9 l k)
theorem Aa9 (a b c : B6) (h : w4 a b = true) (k : w4 b c = true) : w4 a c = true := W0 h k
theorem CY9 {l : List B6} (h : adj w4 l = true) (k : Str) : (∀ i x, i < AI9 l k → l[i]? = some x → Op.bytesLess x.Key k = true) ∧ (∀ x, l[AI9 l k]? = some x → Op.bytesLess x.Key k = false) := by
  have := CR3 (CE1 k) l (fun i j x y hij hx hy hf => by
    unfold CE1 at *;rw [Ao0] at *;exact W0 (Ac8 Aa9 h hij hx hy) hf) l.length 0 l.length rfl (E2 _) (N2 _) (fun k x hk => by omega) (fun x hx => by rw [AT6 (N2 _)] at hx; cases hx)
  refine ⟨fun i x hi hx => (Ao0 _ _).1 (this.1 i x hi hx), fun x hx => ?_⟩;have h2 := this.2 x hx;unfold CE1 at h2;rw [Ao0] at h2;simpa using h2
theorem Cn5 {α : Type} (f : α → Int) (l : List α) : ∀ (d i j : Nat), j - i = d → i ≤ j → j ≤ l.length → bs f l i j ≤ j := DE5
theorem CR5 (l : List B6) (k : Str) : AI9 l k ≤ l.length := Cn5 _ _ _ _ _ rfl (E2 _) (N2 _)
theorem BA9 {l : List B6} {k : Str} : Az3 l k = true ↔ ∃ x, l[AI9 l k]? = some x ∧ x.Key = k := by
  unfold Az3 Am9
  cases h : l[AI9 l k]? with
  | none => simp
  | some x => simp [CE1, BV0]
def m8 (l : List B6) (k : Str) : Option B6 := l.find? fun c => c.Key == k
theorem DT0 {l : List B6} (ha : adj w4 l = true) {i j : Nat} {a b : B6} (hi : l[i]? = some a) (hj : l[j]? = some b) (hk : a.Key = b.Key) : i = j := by
  rcases Nat.lt_trichotomy i j with hlt | heq | hgt
  · have h9 := Ac8 Aa9 ha hlt hi hj
    unfold w4 at h9; rw [hk, M5] at h9; cases h9
  · exact heq
  · have h9 := Ac8 Aa9 ha hgt hj hi
    unfold w4 at h9; rw [hk, M5] at h9; cases h9
theorem Cn6 {l : List B6} (ha : adj w4 l = true) {i : Nat} {c : B6} (hc : l[i]? = some c) : m8 l c.Key = some c := by
  unfold m8
  cases hf : l.find? (fun x => x.Key == c.Key) with
  | none => have := List.find?_eq_none.1 hf c (C2 hc); simp at this
  | some d =>
    have h1 := List.find?_some hf;obtain ⟨j, hj⟩ := i7 (Ah2 hf);have := DT0 ha hj hc (by simpa using h1);subst this;rw [hc] at hj; exact hj.symm
theorem CB0 {l : List B6} (h : adj w4 l = true) (k : Str) : m8 l k = if Az3 l k = true then l[AI9 l k]? else none := by
  split
  · rename_i hh
    obtain ⟨x, hx, hk⟩ := BA9.1 hh;rw [hx, ← hk]; exact Cn6 h hx
  · rename_i hh
    unfold m8;rw [List.find?_eq_none];intro c hc hk;simp only [i8] at hk;obtain ⟨i, hi⟩ := i7 hc;obtain ⟨h1, h2⟩ := CY9 h k;rcases Nat.lt_trichotomy i (AI9 l k) with hlt | heq | hgt
    · have := h1 i c hlt hi
      rw [hk, M5] at this; cases this
    · subst heq; exact hh (BA9.2 ⟨c, hi, hk⟩)
    · obtain ⟨y, hy⟩ := Go.AV.B3 (show AI9 l k < l.length by have := (G2.1 hi).1; omega)
      have h3 := h2 y hy;have h4 := Ac8 Aa9 h hgt hy hi;unfold w4 at h4;rw [hk, h3] at h4; cases h4
def atC (l : List B6) (k : Str) : Int := match l.findIdx? (fun c => c.Key == k) with
  | some i => (i : Int)
  | none => -1
theorem atC_some {l : List B6} {k : Str} {i : Nat} {x : B6} (hx : l[i]? = some x) (hk : x.Key = k) (h : ∀ j y, j < i → l[j]? = some y → y.Key ≠ k) : atC l k = (i : Int) := by
  have hl := (G2.1 hx);have : l.findIdx? (fun c => c.Key == k) = some i := by
    rw [List.findIdx?_eq_some_iff_getElem];refine ⟨hl.1, by rw [hl.2]; simp [hk], fun j hj => ?_⟩;have hl1 := hl.1;simpa using h j _ hj (P2 (show j < l.length by omega))
  unfold atC; rw [this]
theorem atC_none {l : List B6} {k : Str} (h : ∀ (j : Nat) (y : B6), l[j]? = some y → y.Key ≠ k) : atC l k = -1 := by
  have : l.findIdx? (fun c => c.Key == k) = none := by
    rw [List.findIdx?_eq_none_iff];intro x hx;obtain ⟨j, hj⟩ := i7 hx;simpa using h j x hj
  unfold atC; rw [this]
theorem CR6 {l : List B6} {k : Str} (h : atC l k < 0) : m8 l k = none := by
  unfold atC at h
  cases hf : l.findIdx? (fun c => c.Key == k) with
  | some i => rw [hf] at h; simp at h; omega
  | none =>
    rw [List.findIdx?_eq_none_iff] at hf;unfold m8;rw [List.find?_eq_none];intro c hc; simp [hf c hc]
theorem CR7 {l : List B6} {k : Str} (h : ¬ atC l k < 0) : ∃ (p : Nat) (c : B6), atC l k = (p : Int) ∧ l[p]? = some c ∧ m8 l k = some c := by
  cases hf : l.findIdx? (fun c => c.Key == k) with
  | none => exfalso; unfold atC at h; rw [hf] at h; exact h D4
  | some i =>
    have he : atC l k = (i : Int) := by unfold atC; rw [hf]
    rw [List.findIdx?_eq_some_iff_getElem] at hf;obtain ⟨h1, h2, h3⟩ := hf;refine ⟨i, l[i], he, P2 h1, ?_⟩;unfold m8;rw [List.find?_eq_some_iff_getElem];exact ⟨h2, i, h1, rfl, fun j hj => by simpa using h3 j hj⟩
def Ck1 (c : B6) : Int := match c.Vers.getLast? with
  | some v => v.Time
  | none => 0
def O9 (l : List B6) (k : Str) : Int := match m8 l k with
  | some c => Ck1 c
  | none => 0
def BC1 (c : B6) (t : Int) : Str × Bool := match c.Vers.reverse.find? (fun v => decide (v.Time ≤ t)) with
  | some v => (v.Val, !v.Gone)
  | none => ([], false)
def cellAt (l : List B6) (k : Str) (t : Int) : Str × Bool := match m8 l k with
  | some c => BC1 c t
  | none => ([], false)
def DH0 (l : List B6) (t : Int) : List A5 := l.filterMap fun c => if (BC1 c t).2 = true then some ⟨c.Key, (BC1 c t).1, false⟩ else none
def AJ0 : List B6 → Str → Y8 → List B6
  | [], k, v => [⟨k, [v]⟩]
  | c :: l, k, v => if Op.bytesLess c.Key k = true then c :: AJ0 l k v else if c.Key = k then ⟨k, c.Vers ++ [v]⟩ :: l else ⟨k, [v]⟩ :: c :: l
theorem Bt5 {k : Str} {v : Y8} : ∀ {l : List B6} {p : Nat}, p ≤ l.length → (∀ i x, i < p → l[i]? = some x → Op.bytesLess x.Key k = true) → (∀ x, l[p]? = some x → Op.bytesLess x.Key k = false) →
    (∀ x, l[p]? = some x → x.Key = k → AJ0 l k v = l.set p ⟨k, x.Vers ++ [v]⟩) ∧ ((∀ x, l[p]? = some x → x.Key ≠ k) → AJ0 l k v = l.take p ++ ⟨k, [v]⟩ :: l.drop p)
  | [], p, hp, _, _ => by simp at hp; subst hp; exact ⟨fun x hx => by simp at hx, fun _ => rfl⟩
  | c :: l, 0, _, _, h2 => by
    have h := h2 c rfl;unfold AJ0;rw [h, C5 D4];refine ⟨fun x hx hk => ?_, fun hn => ?_⟩
    · simp at hx; subst hx; rw [D3 hk]; rfl
    · rw [C5 (hn c rfl)]; rfl
  | c :: l, p + 1, hp, h1, h2 => by
    have h := h1 0 c qz8 rfl;obtain ⟨i1, i2⟩ := Bt5 (k := k) (v := v) (l := l) (p := p) (by simpa using hp) (fun i y hi hy => h1 (i + 1) y qz8 BC9) (fun y hy => h2 y BC9);unfold AJ0;rw [D3 h];refine ⟨fun x hx hk => ?_, fun hn => ?_⟩
    · rw [i1 x AT1 hk]; rfl
    · rw [i2 fun x hx => hn x AT1]; rfl
def AF2 (l : List B6) (x : A5) (t : Int) : List B6 := AJ0 l x.Key ⟨t, x.Val, x.Gone⟩
def j3 (l : List B6) : List A5 → Int → Option (List B6)
  | [], _ => some l
  | x :: w, t => if decide (t ≤ O9 l x.Key) = true then none else j3 (AF2 l x t) w t
def putCells (l : List B6) (w : List A5) (t : Int) : List B6 × Bool := match j3 l w t with
  | none => ([], false)
  | some out => if (!AA6 out) = true then ([], false) else (out, true)
def AP2 (l : List B6) : Prop := adj w4 l = true ∧ ∀ c ∈ l, 1 ≤ c.Vers.length
theorem Ac9 {l : List B6} (h : AA6 l = true) : AP2 l := ⟨(AI3 h).2.1, fun c hc => ((AI3 h).2.2 c hc).2.1⟩
def AK3 (l : List B6) (w : List A5) (t : Int) : List B6 × Bool := match j3 l w t with
  | none => ([], false)
  | some out => (out, Az2 out)
theorem Cx5 (l : List B6) (w : List A5) (t : Int) : putCells l w t = if (!(AK3 l w t).2) = true then ([], false) else ((AK3 l w t).1, true) := by
  unfold putCells AK3
  cases j3 l w t with
  | none => rfl
  | some out => simp only; rw [AI7]
def B6.ocs (c : B6) (x : Value) : List AV := [AV.str c.Key, AV.is x]
theorem DT1 (d : B6) : ∀ (l : List B6) (k : Str) (v : Y8), ∃ c r, AJ0 (d :: l) k v = c :: r ∧ (c.Key = d.Key ∨ c.Key = k) := fun l k v => by
  unfold AJ0;split
  · exact ⟨_, _, rfl, Or.inl rfl⟩
  · split
    · exact ⟨_, _, rfl, Or.inr rfl⟩
    · exact ⟨_, _, rfl, Or.inr rfl⟩
theorem Av2 {α : Type} {p : α → α → Bool} {x y : α} {l : List α} : adj p (x :: y :: l) = (p x y && adj p (y :: l)) := rfl
theorem CB1 (k : Str) (v : Y8) : ∀ {l : List B6}, adj w4 l = true → adj w4 (AJ0 l k v) = true
  | [], _ => rfl
  | [c], _ => by
    unfold AJ0;by_cases h1 : Op.bytesLess c.Key k = true
    · rw [D3 h1]; unfold AJ0; simpa [adj, w4] using h1
    · rw [C5 h1]
      by_cases h2 : c.Key = k
      · rw [D3 h2]; rfl
      · rw [C5 h2]
        have := j8 k c.Key;simp [adj, w4]
        simp_all
  | c :: d :: l, h => by
    rw [Av2, D8] at h;have ih := CB1 k v (l := d :: l) h.2;unfold AJ0;by_cases h1 : Op.bytesLess c.Key k = true
    · rw [D3 h1]
      obtain ⟨e, r, he, hk⟩ := DT1 d l k v;rw [he] at ih ⊢;rw [Av2, ih, Bool.and_true];have h3 := h.1;unfold w4 at *;rcases hk with hk | hk
      · rw [hk]; exact h3
      · rw [hk]; exact h1
    · rw [C5 h1]
      by_cases h2 : c.Key = k
      · rw [D3 h2, Av2, h.2, Bool.and_true]
        have h3 := h.1;unfold w4 at *;rw [← h2]; exact h3
      · rw [C5 h2, Av2, Av2, h.1, h.2, Bool.and_true, Bool.and_true]
        have := j8 k c.Key;unfold w4
        simp_all
theorem CZ0 (k : Str) (v : Y8) : ∀ {l : List B6}, (∀ c ∈ l, 1 ≤ c.Vers.length) → ∀ c ∈ AJ0 l k v, 1 ≤ c.Vers.length
  | [], _, c, hc => by unfold AJ0 at hc; simp at hc; subst hc; simp
  | d :: l, h, c, hc => by
    have hd := h d a8;have hl := fun c hc => h c (S7 _ hc);unfold AJ0 at hc;split at hc
    · rcases T0.1 hc with e | e
      · subst e; exact hd
      · exact CZ0 k v hl c e
    · split at hc
      · rcases T0.1 hc with e | e
        · subst e; simp
        · exact hl c e
      · rcases T0.1 hc with e | e
        · subst e; simp
        · exact h c e
theorem Ab0 {l : List B6} (h : AP2 l) (k : Str) (v : Y8) : AP2 (AJ0 l k v) := ⟨CB1 k v h.1, CZ0 k v h.2⟩
theorem X7 {α : Type} {f : α → Nat} {x : α} {l : List α} : C9 f (x :: l) = 1 + f x + C9 f l := by unfold C9; simp; omega
theorem Al6 {α : Type} {f : α → Nat} {l r : List α} : C9 f (l ++ r) = C9 f l + C9 f r := by unfold C9; simp; omega
theorem CZ1 (k : Str) (v : Y8) : ∀ {l : List B6}, C9 B6.size (AJ0 l k v) ≤ C9 B6.size l + (2 + k.length + v.Val.length)
  | [] => by unfold AJ0; simp only [X7, B6.size, Y8.size]; unfold C9; simp; omega
  | d :: l => by
    have ih := CZ1 k v (l := l);unfold AJ0;split
    · simp only [X7]; omega
    · split
      · rename_i h; subst h
        simp only [X7, B6.size, Al6, Y8.size]; unfold C9; simp; omega
      · simp only [X7, B6.size, Y8.size]; unfold C9; simp; omega
theorem Ag4 (l : List B6) (x : A5) (t : Int) : C9 B6.size (AF2 l x t) ≤ C9 B6.size l + (2 + x.size) := by
  unfold AF2 A5.size;have := CZ1 x.Key ⟨t, x.Val, x.Gone⟩ (l := l);simp only at this; omega
theorem Ce4 {l : List B6} {k : Str} (h : ∀ c ∈ l, c.Key ≠ k) : O9 l k = 0 := by
  have : m8 l k = none := by
    unfold m8; rw [List.find?_eq_none]; intro c hc; simpa using h c hc
  unfold O9; rw [this]
theorem Cn7 {l : List B6} {k : Str} {q : Nat} {c : B6} (ha : adj w4 l = true) (hc : l[q]? = some c) (hk : c.Key = k) (v : Y8) : AJ0 l k v = l.set q ⟨k, c.Vers ++ [v]⟩ := by
  have hq := (G2.1 hc).1;refine (Bt5 (k := k) (v := v) (l := l) (p := q) qz8 (fun i x hi hx => ?_) (fun x hx => ?_)).1 c hc hk
  · have := Ac8 Aa9 ha hi hx hc
    unfold w4 at this; rw [hk] at this; exact this
  · rw [hc] at hx; injection hx with hx; subst hx; rw [hk]; exact M5 _
theorem scan_new {l : List B6} {k : Str} {q : Nat} (ha : adj w4 l = true) (hq : q ≤ l.length) (h1 : ∀ j x, q ≤ j → l[j]? = some x → Op.bytesLess k x.Key = true) (h2 : ∀ x, 0 < q → l[q - 1]? = some x → Op.bytesLess x.Key k = true) (v : Y8) : (AJ0 l k v = l.take q ++ ⟨k, [v]⟩ :: l.drop q) ∧ O9 l k = 0 := by
  have hlo : ∀ i x, i < q → l[i]? = some x → Op.bytesLess x.Key k = true := fun i x hi hx => by
    obtain ⟨y, hy⟩ := Go.AV.B3 (show q - 1 < l.length by omega);have h3 := h2 y qz8 hy;rcases Nat.lt_or_ge i (q - 1) with hlt | hge
    · have := Ac8 Aa9 ha hlt hx hy
      exact W0 this h3
    · have : i = q - 1 := by omega
      subst this; rw [hx] at hy; injection hy with hy; subst hy; exact h3
  have hhi : ∀ x, l[q]? = some x → Op.bytesLess x.Key k = false := fun x hx => by
    have := h1 q x (N2 _) hx;have h3 := j8 x.Key k;rw [this] at h3; simpa using h3
  refine ⟨(Bt5 (k := k) (v := v) hq hlo hhi).2 fun x hx hk => ?_, Ce4 fun c hc hk => ?_⟩
  · have := h1 q x (N2 _) hx
    rw [hk, M5] at this; cases this
  · obtain ⟨i, hi⟩ := i7 hc
    rcases Nat.lt_or_ge i q with hlt | hge
    · have := hlo i c hlt hi
      rw [hk, M5] at this; cases this
    · have := h1 i c hge hi
      rw [hk, M5] at this; cases this
theorem pos_has {l : List B6} {k : Str} (ha : adj w4 l = true) (h : Az3 l k = true) (v : Y8) : ∃ c, l[AI9 l k]? = some c ∧ c.Key = k ∧ AJ0 l k v = l.set (AI9 l k) ⟨k, c.Vers ++ [v]⟩ := by
  obtain ⟨c, hc, hk⟩ := BA9.1 h;exact ⟨c, hc, hk, Cn7 ha hc hk v⟩
theorem pos_new {l : List B6} {k : Str} (ha : adj w4 l = true) (h : Az3 l k = false) (v : Y8) : AJ0 l k v = l.take (AI9 l k) ++ ⟨k, [v]⟩ :: l.drop (AI9 l k) := by
  obtain ⟨h1, h2⟩ := CY9 ha k;refine (Bt5 (k := k) (v := v) (CR5 l k) h1 h2).2 fun x hx hk => ?_;rw [BA9.2 ⟨x, hx, hk⟩] at h; cases h
def zV : Y8 := ⟨0, [], false⟩
def Aj9 (l : List Y8) (t : Int) : Option Y8 := l.reverse.find? fun v => decide (v.Time ≤ t)
theorem DJ2 {l : List Y8} {i : Nat} {x : Y8} {t : Int} (hx : l[i]? = some x) : Aj9 (l.take (i + 1)) t = if x.Time ≤ t then some x else Aj9 (l.take i) t := by
  unfold Aj9;rw [W1, hx, Option.toList_some, List.reverse_append];show List.find? _ (x :: (l.take i).reverse) = _
  rw [List.find?_cons];by_cases h : x.Time ≤ t
  · rw [D3 h, q8 h]
  · rw [C5 h, AP9 h]
theorem Ce5 (c : B6) (t : Int) : BC1 c t = (((Aj9 c.Vers t).getD zV).Val, (Aj9 c.Vers t).isSome && !((Aj9 c.Vers t).getD zV).Gone) := by
  unfold BC1 Aj9
  cases c.Vers.reverse.find? (fun v => decide (v.Time ≤ t)) <;> rfl
theorem Cx6 {l : List B6} {k : Str} {t : Int} (h : m8 l k = none) : cellAt l k t = ([], false) := by unfold cellAt; rw [h]
theorem Cx7 {l : List B6} {k : Str} {t : Int} {c : B6} (h : m8 l k = some c) : cellAt l k t = BC1 c t := by unfold cellAt; rw [h]
def N9.ocs (c : N9) (x : Value × Value) : List AV := [AV.int c.Kind, AV.int c.Txn, AV.int c.Time, AV.int c.Lead, AV.is x.1, AV.is x.2, AV.bool c.Yes]
def Ad9.ocs (c : Ad9) (x : Value × Value) : List AV := [AV.int c.Ver, AV.is x.1, AV.is x.2]
theorem w6 {α : Type} {f : α → Nat} {c : Nat} : ∀ {l : List α}, (∀ x ∈ l, f x ≤ c) → C9 f l ≤ l.length * (c + 1)
  | [], _ => by simp [C9]
  | x :: l, h => by
    rw [X7];have h1 := h x a8;have h2 := w6 (l := l) fun y hy => h y (S7 _ hy);rw [I9, Nat.add_mul]; omega
theorem Ax2 {s : Str} (h : q6 s = true) : s.length ≤ 12 := by
  unfold q6 within at h
  simp only [D8, H5] at h;omega
theorem DJ3 {s : Str} {g : Bool} (h : AE2 s g = true) : s.length ≤ 24 := by
  unfold AE2 AO9 at h;simp only [D8, H5] at h;omega
theorem Bm6 {l : List B6} (h : AA6 l = true) : C9 B6.size l ≤ 9912 := by
  obtain ⟨h1, _, h3⟩ := AI3 h;have : ∀ c ∈ l, c.size ≤ 412 := fun c hc => by
    obtain ⟨k1, k2, k3, _, k5⟩ := h3 c hc;have e1 := Ax2 k1;have e2 := w6 (f := Y8.size) (c := 24) (l := c.Vers) fun v hv => by
      have := k5 v hv;unfold AY1 at this;simp only [D8] at this;exact DJ3 this.2
    unfold B6.size; omega
  have h4 := w6 this;omega
theorem Bm7 {α : Type} {p : α → α → Bool} (tr : ∀ a b c, p a b = true → p b c = true → p a c = true) : ∀ {l : List α}, adj p l = true ↔ l.Pairwise fun a b => p a b = true
  | [] => by simp [adj]
  | [x] => by simp [adj]
  | x :: y :: l => by
    constructor
    · intro h
      refine AH3.2 ⟨Bt3 tr h, ?_⟩;exact (Bm7 tr).1 (Bd9 h)
    · intro h
      obtain ⟨h1, h2⟩ := AH3.1 h;rw [Av2, h1 y a8, (Bm7 tr).2 h2]; rfl
def BG5 (l : List B6) (k : Str) : List Y8 := match m8 l k with
  | some c => c.Vers
  | none => []
theorem AJ3 (c : B6) (l : List B6) (k : Str) : m8 (c :: l) k = if c.Key = k then some c else m8 l k := by
  unfold m8;rw [List.find?_cons];by_cases h : c.Key = k
  · rw [D3 h, i8.2 h]
  · rw [C5 h, beq_eq_false_iff_ne.2 h]
theorem findC_gt {l : List B6} {k : Str} (h : ∀ c ∈ l, Op.bytesLess k c.Key = true) : m8 l k = none := by
  unfold m8;rw [List.find?_eq_none];intro c hc he;have := h c hc;simp only [i8] at he;rw [he, M5] at this; cases this
theorem Cn8 {k : Str} {v : Y8} : ∀ {l : List B6}, adj w4 l = true → m8 (AJ0 l k v) k = some ⟨k, BG5 l k ++ [v]⟩
  | [], _ => by unfold AJ0; rw [AJ3, D3 rfl]; rfl
  | c :: l, ha => by
    have hal := Bd9 ha;unfold AJ0;by_cases h1 : Op.bytesLess c.Key k = true
    · have hne : c.Key ≠ k := fun e => by rw [e, M5] at h1; cases h1
      rw [D3 h1, AJ3, C5 hne, Cn8 hal];unfold BG5; rw [AJ3, C5 hne]
    · rw [C5 h1]
      by_cases h2 : c.Key = k
      · rw [D3 h2, AJ3, D3 rfl]
        unfold BG5; rw [AJ3, D3 h2]
      · rw [C5 h2, AJ3, D3 rfl]
        have hk : Op.bytesLess k c.Key = true := by have := j8 k c.Key; simp_all
        have hn : m8 (c :: l) k = none := findC_gt fun d hd => by
          rcases T0.1 hd with e | e
          · subst e; exact hk
          · exact W0 hk (Bt3 Aa9 ha d e)
        unfold BG5; rw [hn]; rfl
theorem BB0 {k k' : Str} {v : Y8} (hk : k' ≠ k) : ∀ {l : List B6}, m8 (AJ0 l k v) k' = m8 l k'
  | [] => by unfold AJ0; rw [AJ3, C5 (fun e => hk e.symm)]
  | c :: l => by
    unfold AJ0;split
    · rw [AJ3, AJ3, BB0 hk]
    · split
      · rename_i h2
        rw [AJ3, AJ3, C5 (fun e => hk e.symm), C5 (fun e => hk (e.symm.trans h2))]
      · rw [AJ3, C5 (fun e => hk e.symm)]
theorem Be1 {t : Int} : ∀ {w : List A5} {l out : List B6}, (w.map A5.Key).Nodup → adj w4 l = true → j3 l w t = some out →
    (∀ x ∈ w, m8 out x.Key = some ⟨x.Key, BG5 l x.Key ++ [⟨t, x.Val, x.Gone⟩]⟩) ∧ ∀ k, k ∉ w.map A5.Key → m8 out k = m8 l k
  | [], l, out, _, _, h => by simp [j3] at h; subst h; simp
  | y :: w, l, out, hn, ha, h => by
    unfold j3 at h;split at h
    · cases h
    · rw [j4, List.nodup_cons] at hn
      obtain ⟨i1, i2⟩ := Be1 hn.2 (CB1 y.Key ⟨t, y.Val, y.Gone⟩ ha) h;refine ⟨fun x hx => ?_, fun k hk => ?_⟩
      · rcases T0.1 hx with e | e
        · subst e
          rw [i2 _ hn.1]; exact Cn8 ha
        · rw [i1 x e]
          have hne : x.Key ≠ y.Key := fun e2 => hn.1 (e2 ▸ List.mem_map_of_mem e);have : BG5 (AF2 l y t) x.Key = BG5 l x.Key := by
            unfold BG5 AF2; rw [BB0 hne]
          unfold AF2 at this;rw [this]
      · simp only [j4, T0, not_or] at hk
        rw [i2 k hk.2]; exact BB0 hk.1
theorem Cn9 {w : List A5} (h : AH6 w = true) : (w.map A5.Key).Nodup := by
  unfold AH6 o8 T8 at h;simp only [D8] at h;have ha := h.1.2.2;rw [List.Nodup];refine ((Bm7 (p := fun a b => Op.bytesLess a b) (fun a b c h k => W0 h k)).1 ha).imp fun {a b} hab e => ?_;rw [e, M5] at hab; cases hab
def Ab5 (h : D2) : N9 := ⟨1, h.Txn, h.Time, h.Lead, h.Reads, h.Writes, false⟩
def hOf (r : N9) : D2 := ⟨r.Txn, r.Time, r.Lead, r.Reads, r.Writes⟩
def AV7 (l : List A5) (k : Str) : Bool := l.any fun w => w.Key == k
def BP5 (l : List Str) (k : Str) : Bool := l.any fun x => k == x
theorem Ab1 {l : List A5} {k : Str} : AV7 l k = true ↔ ∃ w ∈ l, w.Key = k := by unfold AV7; simp
theorem BB1 {l : List Str} {k : Str} : BP5 l k = true ↔ k ∈ l := by unfold BP5; simp
def Ba4 (ws : List A5) (rs : List Str) (os : List A5) : Bool := ws.any fun w => AV7 os w.Key || BP5 rs w.Key
def Az4 (h k : D2) : Bool := Ba4 h.Writes k.Reads k.Writes || Ba4 k.Writes h.Reads h.Writes
def apart (h : D2) (rs : List Str) (ws : List A5) : Bool := rs.all (fun k => !AV7 h.Writes k) && ws.all (fun w => !(AV7 h.Writes w.Key || BP5 h.Reads w.Key))
theorem BF5 {h : D2} {rs : List Str} {ws : List A5} : apart h rs ws = true ↔ (∀ k ∈ rs, ∀ w ∈ h.Writes, w.Key ≠ k) ∧ (∀ w ∈ ws, (∀ v ∈ h.Writes, v.Key ≠ w.Key) ∧ w.Key ∉ h.Reads) := by
  unfold apart;simp only [D8, Y6, q7, AE4];constructor
  · rintro ⟨h1, h2⟩
    refine ⟨fun k hk w hw e => ?_, fun w hw => ⟨fun v hv e => ?_, fun hr => ?_⟩⟩
    · have := h1 k hk; rw [Ab1.2 ⟨w, hw, e⟩] at this; cases this
    · have := (h2 w hw).1; rw [Ab1.2 ⟨v, hv, e⟩] at this; cases this
    · have := (h2 w hw).2; rw [BB1.2 hr] at this; cases this
  · rintro ⟨h1, h2⟩
    refine ⟨fun k hk => ?_, fun w hw => ⟨?_, ?_⟩⟩
    · cases e : AV7 h.Writes k with
      | false => rfl
      | true => obtain ⟨v, hv, ev⟩ := Ab1.1 e; exact (h1 k hk v hv ev).elim
    · cases e : AV7 h.Writes w.Key with
      | false => rfl
      | true => obtain ⟨v, hv, ev⟩ := Ab1.1 e; exact ((h2 w hw).1 v hv ev).elim
    · cases e : BP5 h.Reads w.Key with
      | false => rfl
      | true => exact ((h2 w hw).2 (BB1.1 e)).elim
theorem BV1 (h g : D2) : Az4 h g = !apart g h.Reads h.Writes := by
  cases ha : apart g h.Reads h.Writes with
  | true =>
    obtain ⟨h1, h2⟩ := BF5.1 ha;refine Bool.eq_false_iff.2 fun hc => ?_;unfold Az4 Ba4 at hc;simp only [AB1, List.any_eq_true] at hc;rcases hc with ⟨w, hw, e | e⟩ | ⟨w, hw, e | e⟩
    · obtain ⟨v, hv, ev⟩ := Ab1.1 e; exact (h2 w hw).1 v hv ev
    · exact (h2 w hw).2 (BB1.1 e)
    · obtain ⟨v, hv, ev⟩ := Ab1.1 e; exact (h2 v hv).1 w hw ev.symm
    · exact h1 _ (BB1.1 e) w hw rfl
  | false =>
    rw [Bool.not_false]
    cases hc : Az4 h g with
    | true => rfl
    | false =>
      rw [← ha, BF5.2];unfold Az4 Ba4 at hc;simp only [AE4, List.any_eq_false, AB1, not_or] at hc;refine ⟨fun k hk w hw e => (hc.2 w hw).2 (BB1.2 (e ▸ hk)), fun w hw => ⟨fun v hv e => (hc.1 w hw).1 (Ab1.2 ⟨v, hv, e⟩), fun hr => (hc.1 w hw).2 (BB1.2 hr)⟩⟩
theorem Bm8 {h : D2} {rs : List Str} {ws : List A5} {t m l : Int} (ha : apart h rs ws = true) : apart ⟨t, m, l, rs, ws⟩ h.Reads h.Writes = true := by
  obtain ⟨h1, h2⟩ := BF5.1 ha;exact BF5.2 ⟨fun k hk w hw e => (h2 w hw).2 (e ▸ hk), fun w hw => ⟨fun v hv e => (h2 v hv).1 w hw e.symm, fun hr => h1 _ hr w hw rfl⟩⟩
def Ak0 (cells : List B6) (k : Str) : Bool := match m8 cells k with
  | some c => decide (16 ≤ c.Vers.length)
  | none => false
def hWs (l : List D2) : List A5 := (l.map D2.Writes).flatten
def Aq6 (cells : List B6) (ws : List A5) : List Str := Ap2 (AB2 cells ++ T8 ws)
def room (cells : List B6) (ws : List A5) : Bool := ws.all (fun w => !Ak0 cells w.Key) && decide ((Aq6 cells ws).length ≤ 24)
theorem Be2 (a b : List D2) : hWs (a ++ b) = hWs a ++ hWs b := by unfold hWs; simp
theorem BB2 (a : D2) (b : List D2) : hWs (a :: b) = a.Writes ++ hWs b := by unfold hWs; simp
theorem BB3 {l : List D2} {w : A5} : w ∈ hWs l ↔ ∃ h ∈ l, w ∈ h.Writes := by
  unfold hWs;simp only [List.mem_flatten, m1];constructor
  · rintro ⟨_, ⟨a, ha, rfl⟩, hw⟩; exact ⟨a, ha, hw⟩
  · rintro ⟨h, hh, hw⟩; exact ⟨_, ⟨h, hh, rfl⟩, hw⟩
theorem CG9 {cells : List B6} {ws : List A5} {k : Str} : k ∈ Aq6 cells ws ↔ k ∈ AB2 cells ∨ k ∈ T8 ws := by
  unfold Aq6; rw [BR9, u6]
theorem DJ4 {l : List Str} (h : AV6 l) : l.Nodup := h.imp fun {a b} hab e => by rw [e, M5] at hab; cases hab
theorem CB2 {α : Type} [BEq α] [LawfulBEq α] : ∀ {a b : List α}, a.Nodup → (∀ x ∈ a, x ∈ b) → a.length ≤ b.length
  | [], _, _, _ => E2 _
  | x :: a, b, ha, h => by
    obtain ⟨h1, h2⟩ := List.nodup_cons.1 ha;have hx := h x a8;have ih := CB2 (b := b.erase x) h2 fun y hy => (List.mem_erase_of_ne (fun e : y = x => h1 (by rw [← e]; exact hy))).2 (h y (S7 _ hy));rw [List.length_erase_of_mem hx] at ih;have := List.length_pos_of_mem hx;rw [I9]; omega
theorem srtS_le {a b : List Str} (ha : AV6 a) (h : ∀ x ∈ a, x ∈ b) : a.length ≤ b.length := CB2 (DJ4 ha) h
theorem Bm9 {c1 c2 : List B6} {w1 w2 : List A5} (h : ∀ k, k ∈ AB2 c1 ∨ k ∈ T8 w1 → k ∈ AB2 c2 ∨ k ∈ T8 w2) : (Aq6 c1 w1).length ≤ (Aq6 c2 w2).length :=
  srtS_le (CY6 _) fun k hk => CG9.2 (h k (CG9.1 hk))
theorem CZ2 {cells : List B6} {a b : List A5} (h : ∀ w, w ∈ a ↔ w ∈ b) : room cells a = room cells b := by
  unfold room;have h1 : a.all (fun w => !Ak0 cells w.Key) = b.all (fun w => !Ak0 cells w.Key) := by
    rw [AW7, Y6, Y6];exact ⟨fun k w hw => k w ((h w).2 hw), fun k w hw => k w ((h w).1 hw)⟩
  have hk : ∀ k, k ∈ T8 a ↔ k ∈ T8 b := fun k => by unfold T8; simp only [m1]; exact ⟨fun ⟨w, hw, e⟩ => ⟨w, (h w).1 hw, e⟩, fun ⟨w, hw, e⟩ => ⟨w, (h w).2 hw, e⟩⟩
  have h2 : (Aq6 cells a).length = (Aq6 cells b).length := Nat.le_antisymm (Bm9 fun k hk2 => by rw [hk] at hk2; exact hk2) (Bm9 fun k hk2 => by rw [← hk] at hk2; exact hk2);rw [h1, h2]
def BX0 (n : Nat) (p : Nat → Bool) : Bool := (List.range n).all p
theorem BN5 {n : Nat} {p : Nat → Bool} : BX0 n p = true ↔ ∀ i, i < n → p i = true := by unfold BX0; simp
theorem Ax3 {n i : Nat} {p : Nat → Bool} (hi : i < n) (h : p i = false) : BX0 n p = false := by
  cases e : BX0 n p with
  | false => rfl
  | true => rw [BN5.1 e i hi] at h; cases h
def AX0 (l : List D2) (n : Int) : Bool := l.any fun h => h.Txn == n
def AT8 (l : List G7) (n : Int) : Bool := l.any fun t => t.Txn == n
def CO0 (l : List D2) (i : Nat) (n : Int) : Bool := match l[i - 1]? with
  | some g => !(decide (0 < i) && decide (n ≤ g.Txn))
  | none => true
def CO1 (l : List G7) (i : Nat) (n : Int) : Bool := match l[i - 1]? with
  | some g => !(decide (0 < i) && decide (n ≤ g.Txn))
  | none => true
def Aq7 (s : E9) (i : Nat) : Bool := match s.Held[i]? with
  | none => true
  | some h => (((T2 (Ab5 h) && !decide (s.Floor < h.Time)) && CO0 s.Held i h.Txn) && (s.Held.take i).all fun g => apart g h.Reads h.Writes) && h.Writes.all fun w => decide (O9 s.Cells w.Key < h.Time)
def Ai7 (s : E9) : Bool := BX0 s.Held.length (Aq7 s) && (decide (s.Held.length ≤ 12) && room s.Cells (hWs s.Held))
def BE7 (s : E9) (t : G7) : Bool := if t.Yes = true then within t.Time 1 s.Floor else t.Time == 0
def Az5 (s : E9) (i : Nat) : Bool := match s.Told[i]? with
  | none => true
  | some t => ((AS6 t.Txn && BE7 s t) && CO1 s.Told i t.Txn) && !AX0 s.Held t.Txn
def w7 (s : E9) : Bool := ((((j6 s.Floor && AA6 s.Cells) && Ai7 s) && decide (s.Told.length ≤ 60)) && s.Cells.all fun c => decide (O9 s.Cells c.Key ≤ s.Floor)) && BX0 s.Told.length (Az5 s)
structure GS (s : E9) : Prop where
  floor : 0 ≤ s.Floor ∧ s.Floor ≤ 100000
  cells : AA6 s.Cells = true
  good : ∀ h ∈ s.Held, T2 (Ab5 h) = true ∧ h.Time ≤ s.Floor ∧ ∀ w ∈ h.Writes, O9 s.Cells w.Key < h.Time
  hsort : s.Held.Pairwise fun a b => a.Txn < b.Txn
  apart : s.Held.Pairwise fun a b => apart a b.Reads b.Writes = true
  hlen : s.Held.length ≤ 12
  room : room s.Cells (hWs s.Held) = true
  tlen : s.Told.length ≤ 60
  last : ∀ c ∈ s.Cells, O9 s.Cells c.Key ≤ s.Floor
  told : ∀ t ∈ s.Told, AS6 t.Txn = true ∧ BE7 s t = true ∧ AX0 s.Held t.Txn = false
  tsort : s.Told.Pairwise fun a b => a.Txn < b.Txn
theorem CH0 {α : Type} {f : α → Int} {l : List α} (h : ∀ (i : Nat) (x y : α), 0 < i → l[i]? = some x → l[i - 1]? = some y → f y < f x) : l.Pairwise fun a b => f a < f b := by
  have key : ∀ (j i : Nat) (x y : α), i < j → l[j]? = some x → l[i]? = some y → f y < f x := by
    intro j;induction j with
    | zero => intro i x y hi; omega
    | succ j ih =>
      intro i x y hi hx hy;have hj := (G2.1 hx).1;have hz := P2 (show j < l.length by omega);have h1 := h (j + 1) x _ qz8 hx hz;rcases Nat.lt_or_ge i j with h2 | h2
      · have := ih i _ y h2 hz hy; omega
      · have : i = j := by omega
        subst this; rw [hz] at hy; injection hy with hy; subst hy; exact h1
  rw [List.pairwise_iff_getElem];intro i j hi hj hij;exact key j i _ _ hij (P2 hj) (P2 hi)
theorem CZ3 {l : List D2} {i : Nat} {n : Int} : CO0 l i n = true ↔ ∀ g, 0 < i → l[i - 1]? = some g → g.Txn < n := by
  unfold CO0
  cases h : l[i - 1]? with
  | none => simp
  | some g =>
    simp only [q7, Bool.and_eq_false_iff, AH1];exact ⟨fun k y h0 e => by injection e with e; subst e; omega, fun k => if h0 : 0 < i then .inr (by have := k g h0 rfl; omega) else .inl h0⟩
theorem CZ4 {l : List G7} {i : Nat} {n : Int} : CO1 l i n = true ↔ ∀ g, 0 < i → l[i - 1]? = some g → g.Txn < n := by
  unfold CO1
  cases h : l[i - 1]? with
  | none => simp
  | some g =>
    simp only [q7, Bool.and_eq_false_iff, AH1];exact ⟨fun k y h0 e => by injection e with e; subst e; omega, fun k => if h0 : 0 < i then .inr (by have := k g h0 rfl; omega) else .inl h0⟩
theorem CZ5 {α : Type} {p : α → α → Prop} {l : List α} : l.Pairwise p ↔ ∀ (i : Nat) (x : α), l[i]? = some x → ∀ y ∈ l.take i, p y x := by
  rw [List.pairwise_iff_getElem];constructor
  · intro h i x hx y hy
    obtain ⟨j, hj⟩ := i7 hy;have hi := (G2.1 hx);have hjl := (G2.1 hj).1;rw [H4] at hjl;rw [AH0 qz8] at hj;have hj2 := (G2.1 hj);obtain ⟨hi1, hi2⟩ := hi;obtain ⟨hj3, hj4⟩ := hj2;have := h j i hj3 hi1 qz8;rw [hi2, hj4] at this; exact this
  · intro h i j hi hj hij
    refine h j _ (P2 hj) _ (C2 (i := i) ?_);rw [AH0 hij]; exact P2 hi
theorem AN6 {s : E9} : w7 s = true ↔ GS s := by
  unfold w7 Ai7;simp only [D8, H5, BN5, Y6];constructor
  · rintro ⟨⟨⟨⟨⟨h1, h2⟩, h3, h4, h5⟩, h6⟩, h7⟩, h8⟩
    have hh : ∀ (i : Nat) (h : D2), s.Held[i]? = some h → T2 (Ab5 h) = true ∧ h.Time ≤ s.Floor ∧ (∀ g, 0 < i → s.Held[i - 1]? = some g → g.Txn < h.Txn) ∧ (∀ g ∈ s.Held.take i, apart g h.Reads h.Writes = true) ∧ ∀ w ∈ h.Writes, O9 s.Cells w.Key < h.Time := fun i h hi => by
      have := h3 i (G2.1 hi).1;unfold Aq7 at this;rw [hi] at this;simp only [D8, Y6, H5, CZ3, q7, AH1] at this;exact ⟨this.1.1.1.1, by omega, this.1.1.2, this.1.2, this.2⟩
    have ht : ∀ (i : Nat) (t : G7), s.Told[i]? = some t → AS6 t.Txn = true ∧ BE7 s t = true ∧ (∀ g, 0 < i → s.Told[i - 1]? = some g → g.Txn < t.Txn) ∧ AX0 s.Held t.Txn = false := fun i t hi => by
      have := h8 i (G2.1 hi).1;unfold Az5 at this;rw [hi] at this;simp only [D8, CZ4, q7] at this;exact ⟨this.1.1.1, this.1.1.2, this.1.2, this.2⟩
    unfold j6 within at h1
    simp only [D8, H5] at h1;refine ⟨h1, h2, fun h hm => ?_, CH0 fun i x y h0 hx hy => (hh i x hx).2.2.1 y h0 hy, CZ5.2 fun i x hx => (hh i x hx).2.2.2.1, h4, h5, h6, h7, fun t hm => ?_, CH0 fun i x y h0 hx hy => (ht i x hx).2.2.1 y h0 hy⟩
    · obtain ⟨i, hi⟩ := i7 hm
      have := hh i h hi;exact ⟨this.1, this.2.1, this.2.2.2.2⟩
    · obtain ⟨i, hi⟩ := i7 hm
      have := ht i t hi;exact ⟨this.1, this.2.1, this.2.2.2⟩
  · intro g
    have hch : ∀ {α : Type} {f : α → Int} {l : List α}, (l.Pairwise fun a b => f a < f b) → ∀ (i : Nat) (x y : α), 0 < i → l[i]? = some x → l[i - 1]? = some y → f y < f x := fun {α f l} hp i x y h0 hx hy => by
      obtain ⟨hx1, hx2⟩ := G2.1 hx;obtain ⟨hy1, hy2⟩ := G2.1 hy;have := List.pairwise_iff_getElem.1 hp (i - 1) i hy1 hx1 qz8;rw [hx2, hy2] at this; exact this
    refine ⟨⟨⟨⟨⟨?_, g.cells⟩, fun i hi => ?_, g.hlen, g.room⟩, g.tlen⟩, g.last⟩, fun i hi => ?_⟩
    · unfold j6 within; simp [g.floor]
    · unfold Aq7
      rw [P2 hi];have hx := P2 hi;obtain ⟨g1, g2, g3⟩ := g.good _ (C2 hx);simp only [D8, Y6, H5, CZ3, q7, AH1];exact ⟨⟨⟨⟨g1, by omega⟩, fun y h0 hy => hch g.hsort i _ y h0 hx hy⟩, fun y hy => CZ5.1 g.apart i _ hx y hy⟩, g3⟩
    · unfold Az5
      rw [P2 hi];have hx := P2 hi;obtain ⟨g1, g2, g3⟩ := g.told _ (C2 hx);simp only [D8, CZ4, q7];exact ⟨⟨⟨g1, g2⟩, fun y h0 hy => hch g.tsort i _ y h0 hx hy⟩, g3⟩
def Ab6 (h : D2) : List D2 → List D2
  | [] => [h]
  | g :: l => if h.Txn < g.Txn then h :: g :: l else g :: Ab6 h l
def AX1 (h : G7) : List G7 → List G7
  | [] => [h]
  | g :: l => if h.Txn < g.Txn then h :: g :: l else g :: AX1 h l
def AC1 (l : List D2) (n : Int) : List D2 := l.filter fun h => h.Txn != n
def AH7 (l : List D2) (n : Int) : Option D2 := l.find? fun h => h.Txn == n
def Ac2 (l : List G7) (n : Int) : Option G7 := l.find? fun t => t.Txn == n
def fits (s : E9) (rs : List Str) (ws : List A5) : Bool := (s.Held.all fun h => apart h rs ws) && (decide (s.Held.length < 12) && room s.Cells (hWs s.Held ++ ws))
def AQ1 (s : E9) (r : N9) (fl : Int) (q : List B6) : E9 := ⟨fl, q, AC1 s.Held r.Txn, AX1 ⟨r.Txn, r.Yes, r.Time⟩ s.Told⟩
def W6 (s : E9) (r : N9) : E9 × Bool :=
  if r.Kind = 4 then (⟨r.Time, s.Cells, s.Held, s.Told⟩, decide (s.Floor < r.Time))
  else if AT8 s.Told r.Txn = true then (s, false)
  else if r.Kind = 1 then (⟨r.Time, s.Cells, Ab6 (hOf r) s.Held, s.Told⟩, (!AX0 s.Held r.Txn && decide (s.Floor < r.Time)) && fits s r.Reads r.Writes)
  else if r.Yes = true then (match AH7 s.Held r.Txn with
    | none => (s, false)
    | some h => if r.Time < h.Time then (s, false) else if (AK3 s.Cells h.Writes r.Time).2 = true then (AQ1 s r (if s.Floor < r.Time then r.Time else s.Floor) (AK3 s.Cells h.Writes r.Time).1, true) else (s, false))
  else (AQ1 s r s.Floor s.Cells, true)
def U9 : E9 := ⟨0, [], [], []⟩
def AJ9 (s : E9) (r : N9) : E9 := if (W6 s r).2 = true then (W6 s r).1 else s
def Y3 (s : E9) (l : List N9) : E9 := l.foldl AJ9 s
def Ae1 (s : E9) : List N9 → List Bool
  | [] => []
  | r :: l => (W6 s r).2 :: Ae1 (AJ9 s r) l
theorem BF6 (h : D2) : ∀ l, (Ab6 h l).Perm (h :: l)
  | [] => List.Perm.refl _
  | g :: l => by
    unfold Ab6;split
    · exact List.Perm.refl _
    · exact (List.Perm.cons g (BF6 h l)).trans (List.Perm.swap h g l)
theorem Bn0 (h : G7) : ∀ l, (AX1 h l).Perm (h :: l)
  | [] => List.Perm.refl _
  | g :: l => by
    unfold AX1;split
    · exact List.Perm.refl _
    · exact (List.Perm.cons g (Bn0 h l)).trans (List.Perm.swap h g l)
theorem Al7 {h x : D2} {l : List D2} : x ∈ Ab6 h l ↔ x = h ∨ x ∈ l := by rw [(BF6 h l).mem_iff, T0]
theorem Co0 {h x : G7} {l : List G7} : x ∈ AX1 h l ↔ x = h ∨ x ∈ l := by rw [(Bn0 h l).mem_iff, T0]
theorem Bn1 {h : D2} : ∀ {l : List D2}, (l.Pairwise fun a b => a.Txn < b.Txn) → (∀ g ∈ l, g.Txn ≠ h.Txn) → (Ab6 h l).Pairwise fun a b => a.Txn < b.Txn
  | [], _, _ => by unfold Ab6; simp
  | g :: l, hs, hn => by
    obtain ⟨h1, h2⟩ := AH3.1 hs;have hg := hn g a8;unfold Ab6;split
    · rename_i hlt
      refine AH3.2 ⟨fun y hy => ?_, hs⟩;rcases T0.1 hy with rfl | hy
      · exact hlt
      · have := h1 y hy; omega
    · refine AH3.2 ⟨fun y hy => ?_, Bn1 h2 fun y hy => hn y (S7 _ hy)⟩
      rcases Al7.1 hy with rfl | hy
      · omega
      · exact h1 y hy
theorem Bn2 {h : G7} : ∀ {l : List G7}, (l.Pairwise fun a b => a.Txn < b.Txn) → (∀ g ∈ l, g.Txn ≠ h.Txn) → (AX1 h l).Pairwise fun a b => a.Txn < b.Txn
  | [], _, _ => by unfold AX1; simp
  | g :: l, hs, hn => by
    obtain ⟨h1, h2⟩ := AH3.1 hs;have hg := hn g a8;unfold AX1;split
    · rename_i hlt
      refine AH3.2 ⟨fun y hy => ?_, hs⟩;rcases T0.1 hy with rfl | hy
      · exact hlt
      · have := h1 y hy; omega
    · refine AH3.2 ⟨fun y hy => ?_, Bn2 h2 fun y hy => hn y (S7 _ hy)⟩
      rcases Co0.1 hy with rfl | hy
      · omega
      · exact h1 y hy
theorem hasH_iff {l : List D2} {n : Int} : AX0 l n = true ↔ ∃ h ∈ l, h.Txn = n := by unfold AX0; simp
theorem Ab2 {l : List D2} {n : Int} : AX0 l n = false ↔ ∀ h ∈ l, h.Txn ≠ n := by unfold AX0; simp
theorem hasT_iff {l : List G7} {n : Int} : AT8 l n = true ↔ ∃ h ∈ l, h.Txn = n := by unfold AT8; simp
theorem Be3 {l : List G7} {n : Int} : AT8 l n = false ↔ ∀ h ∈ l, h.Txn ≠ n := by unfold AT8; simp
theorem Af0 {l : List D2} {n : Int} {h : D2} : h ∈ AC1 l n ↔ h ∈ l ∧ h.Txn ≠ n := by unfold AC1; simp
theorem CH1 : ∀ {l : List G7} {a : Int}, (l.Pairwise fun a b => a.Txn < b.Txn) → (∀ t ∈ l, a < t.Txn ∧ t.Txn ≤ 60) → l.length ≤ (60 - a).toNat
  | [], _, _, _ => E2 _
  | t :: l, a, hs, h => by
    obtain ⟨h1, h2⟩ := AH3.1 hs;have ht := h t a8;have := CH1 (a := t.Txn) h2 fun u hu => ⟨h1 u hu, (h u (S7 _ hu)).2⟩;rw [I9]; omega
theorem DJ5 {n : Int} : AS6 n = true ↔ 1 ≤ n ∧ n ≤ 60 := by unfold AS6 within; simp
theorem BX9 {a b : List B6} {k : Str} (h : m8 a k = m8 b k) : O9 a k = O9 b k := by unfold O9; rw [h]
theorem Cx8 {a b : List B6} {k : Str} (h : m8 a k = m8 b k) : Ak0 a k = Ak0 b k := by unfold Ak0; rw [h]
theorem CZ6 {l : List B6} {k : Str} {c : B6} (h : m8 l k = some c) : c ∈ l ∧ c.Key = k := by
  unfold m8 at h;exact ⟨Ah2 h, by simpa using List.find?_some h⟩
theorem DE7 {s : E9} (g : GS s) (k : Str) : O9 s.Cells k ≤ s.Floor := by
  have h0 := g.floor.1
  cases h : m8 s.Cells k with
  | none => unfold O9; rw [h]; exact h0
  | some c =>
    obtain ⟨h1, h2⟩ := CZ6 h;rw [← h2]; exact g.last c h1
theorem Be4 {s s' : E9} {t : G7} (h : s.Floor ≤ s'.Floor) (ht : BE7 s t = true) : BE7 s' t = true := by
  unfold BE7 within at *
  split
  · rename_i hy; rw [D3 hy] at ht; simp only [D8, H5] at *; omega
  · rename_i hy; rw [C5 hy] at ht; exact ht
theorem gs_floor {s : E9} (g : GS s) {t : Int} (h1 : s.Floor ≤ t) (h2 : t ≤ 100000) : GS ⟨t, s.Cells, s.Held, s.Told⟩ := by
  have h0 := g.floor.1;exact ⟨⟨by dsimp only; omega, h2⟩, g.cells, fun h hm => ⟨(g.good h hm).1, by have := (g.good h hm).2.1; dsimp only; omega, (g.good h hm).2.2⟩, g.hsort, g.apart, g.hlen, g.room, g.tlen, fun c hc => by have := g.last c hc; dsimp only; omega, fun u hu => ⟨(g.told u hu).1, Be4 h1 (g.told u hu).2.1, (g.told u hu).2.2⟩, g.tsort⟩
theorem DT2 {r : N9} (h : T2 r = true) (hk : r.Kind = 1) : r.Yes = false := by
  unfold T2 at h;rw [D3 hk] at h;unfold BE5 at h;simp only [D8, q7] at h;exact h.2
theorem Co1 {r : N9} (h : T2 r = true) : 0 ≤ r.Time ∧ r.Time ≤ 100000 := (goodR h).time
theorem Co2 {r : N9} (h : T2 r = true) (hk : r.Kind = 1) : Ab5 (hOf r) = r := by
  have := DT2 h hk;unfold Ab5 hOf
  cases r; simp_all
theorem hWs_ins {h : D2} {l : List D2} {w : A5} : w ∈ hWs (Ab6 h l) ↔ w ∈ hWs l ++ h.Writes := by
  rw [BB3, u6, BB3];constructor
  · rintro ⟨x, hx, hw⟩
    rcases Al7.1 hx with rfl | hx
    · exact Or.inr hw
    · exact Or.inl ⟨x, hx, hw⟩
  · rintro (⟨x, hx, hw⟩ | hw)
    · exact ⟨x, Al7.2 (Or.inr hx), hw⟩
    · exact ⟨h, Al7.2 (Or.inl rfl), hw⟩
theorem fits_iff {s : E9} {rs : List Str} {ws : List A5} : fits s rs ws = true ↔ (∀ h ∈ s.Held, apart h rs ws = true) ∧ s.Held.length < 12 ∧ room s.Cells (hWs s.Held ++ ws) = true := by
  unfold fits; simp only [D8, Y6, H5]
theorem DJ6 {s : E9} (g : GS s) {r : N9} (hr : T2 r = true) (hk : r.Kind = 1) (hh : AX0 s.Held r.Txn = false) (hT : AT8 s.Told r.Txn = false) (ht : s.Floor < r.Time) (hf : fits s r.Reads r.Writes = true) :
    GS ⟨r.Time, s.Cells, Ab6 (hOf r) s.Held, s.Told⟩ := by
  obtain ⟨f1, f2, f3⟩ := fits_iff.1 hf;have htm := Co1 hr;have hnh := Ab2.1 hh;have hnt := Be3.1 hT;refine ⟨⟨htm.1, htm.2⟩, g.cells, fun h hm => ?_, Bn1 g.hsort hnh, ?_, ?_, ?_, g.tlen, fun c hc => ?_, fun t hm => ⟨(g.told t hm).1, Be4 (by dsimp only; omega) (g.told t hm).2.1, ?_⟩, g.tsort⟩
  · rcases Al7.1 hm with rfl | hm
    · refine ⟨by rw [Co2 hr hk]; exact hr, Int.le_refl _, fun w hw => ?_⟩
      have := DE7 g w.Key;show O9 s.Cells w.Key < r.Time
      omega
    · obtain ⟨g1, g2, g3⟩ := g.good h hm
      exact ⟨g1, by dsimp only; omega, g3⟩
  · refine ((BF6 (hOf r) s.Held).pairwise_iff (fun {x y} hxy => Bm8 hxy)).2 (AH3.2 ⟨fun y hy => Bm8 (f1 y hy), g.apart⟩)
  · rw [(BF6 _ _).length_eq, I9]; omega
  · rw [CZ2 fun w => hWs_ins]; exact f3
  · have := g.last c hc; dsimp only; omega
  · refine Ab2.2 fun h hm e => ?_
    rcases Al7.1 hm with rfl | hm
    · exact hnt t ‹_› e.symm
    · exact Ab2.1 (g.told t ‹_›).2.2 h hm e
theorem CH2 {s : E9} (g : GS s) {n fl : Int} {q : List B6} {t : G7} (hn : t.Txn = n) (hx : AS6 n = true) (hT : AT8 s.Told n = false) (hfl : s.Floor ≤ fl ∧ fl ≤ 100000) (hq : AA6 q = true) (hlast : ∀ c ∈ q, O9 q c.Key ≤ fl)
    (hkeep : ∀ k ∈ AC1 s.Held n, ∀ w ∈ k.Writes, m8 q w.Key = m8 s.Cells w.Key) (hkeys : ∀ k ∈ AB2 q, k ∈ AB2 s.Cells ∨ k ∈ T8 (hWs s.Held)) (htf : (if t.Yes = true then within t.Time 1 fl else t.Time == 0) = true) : GS ⟨fl, q, AC1 s.Held n, AX1 t s.Told⟩ := by
  have h0 := g.floor.1;have hnt := Be3.1 hT;have hsub : (AC1 s.Held n).Sublist s.Held := List.filter_sublist;have htl : ∀ u ∈ AX1 t s.Told, AS6 u.Txn = true ∧ BE7 ⟨fl, q, AC1 s.Held n, AX1 t s.Told⟩ u = true ∧ AX0 (AC1 s.Held n) u.Txn = false := fun u hu => by
    rcases Co0.1 hu with rfl | hu
    · exact ⟨hn ▸ hx, htf, Ab2.2 fun h hm e => (Af0.1 hm).2 (e.trans hn)⟩
    · obtain ⟨a, b, c⟩ := g.told u hu
      exact ⟨a, Be4 hfl.1 b, Ab2.2 fun h hm e => Ab2.1 c h (Af0.1 hm).1 e⟩
  have hts := Bn2 (h := t) g.tsort fun u hu => by rw [hn]; exact hnt u hu
  refine ⟨⟨by dsimp only; omega, hfl.2⟩, hq, fun h hm => ?_, g.hsort.sublist hsub, g.apart.sublist hsub, L4 hsub.length_le g.hlen, ?_, ?_, hlast, htl, hts⟩
  · obtain ⟨g1, g2, g3⟩ := g.good h (Af0.1 hm).1
    exact ⟨g1, by dsimp only; omega, fun w hw => by rw [show O9 q w.Key = _ from BX9 (hkeep h hm w hw)]; exact g3 w hw⟩
  · have hr := g.room
    unfold room at hr ⊢;simp only [D8, Y6, H5] at hr ⊢;refine ⟨fun w hw => ?_, L4 (Bm9 fun k hk => ?_) hr.2⟩
    · obtain ⟨h, hm, hwh⟩ := BB3.1 hw
      rw [Cx8 (hkeep h hm w hwh)];exact hr.1 w (BB3.2 ⟨h, (Af0.1 hm).1, hwh⟩)
    · rcases hk with hk | hk
      · exact hkeys k hk
      · refine Or.inr ?_
        unfold T8 at hk ⊢;obtain ⟨w, hw, e⟩ := m1.1 hk;obtain ⟨h, hm, hwh⟩ := BB3.1 hw;exact m1.2 ⟨w, BB3.2 ⟨h, (Af0.1 hm).1, hwh⟩, e⟩
  · have := CH1 (a := 0) hts fun u hu => by have := DJ5.1 (htl u hu).1; omega
    exact this
theorem put_keys {l q : List B6} {w : List A5} {t : Int} (hw : (w.map A5.Key).Nodup) (hl : adj w4 l = true) (hq : adj w4 q = true) (h : j3 l w t = some q) : ∀ k ∈ AB2 q, k ∈ AB2 l ∨ k ∈ T8 w := fun k hk => by
  obtain ⟨h1, h2⟩ := Be1 hw hl h;by_cases hm : k ∈ w.map A5.Key
  · exact Or.inr hm
  · left
    unfold AB2 at hk;obtain ⟨c, hc, e⟩ := m1.1 hk;obtain ⟨i, hi⟩ := i7 hc;have h3 := Cn6 hq hi;rw [e, h2 k hm] at h3;obtain ⟨h4, h5⟩ := CZ6 h3;exact m1.2 ⟨c, h4, e⟩
theorem put_last {l q : List B6} {w : List A5} {t : Int} (hw : (w.map A5.Key).Nodup) (hl : adj w4 l = true) (h : j3 l w t = some q) (k : Str) : O9 q k = t ∨ O9 q k = O9 l k := by
  obtain ⟨h1, h2⟩ := Be1 hw hl h;by_cases hm : k ∈ w.map A5.Key
  · obtain ⟨x, hx, e⟩ := m1.1 hm
    have := h1 x hx;rw [e] at this;left; unfold O9 Ck1; rw [this]; simp
  · right; exact BX9 (h2 k hm)
theorem Ao1 {l : List D2} {n : Int} {h : D2} (e : AH7 l n = some h) : h ∈ l ∧ h.Txn = n := by
  unfold AH7 at e;exact ⟨Ah2 e, by simpa using List.find?_some e⟩
theorem BJ0 {l : List D2} {n : Int} : AH7 l n = none ↔ AX0 l n = false := by
  unfold AH7 AX0; rw [List.find?_eq_none, List.any_eq_false]
theorem Cx9 {s : E9} (g : GS s) {h : D2} (hm : h ∈ s.Held) : AH6 h.Writes = true := by
  have := (g.good h hm).1;unfold T2 Ab5 at this;rw [D3 rfl] at this;unfold BE5 at this;simp only [D8] at this;exact this.1.1.2
theorem DJ7 {s : E9} (g : GS s) {h k : D2} (hh : h ∈ s.Held) (hk : k ∈ s.Held) (hne : k.Txn ≠ h.Txn) : apart k h.Reads h.Writes = true := by
  obtain ⟨i, hi⟩ := i7 hh;obtain ⟨j, hj⟩ := i7 hk;obtain ⟨i1, i2⟩ := G2.1 hi;obtain ⟨j1, j2⟩ := G2.1 hj;have hp := List.pairwise_iff_getElem.1 g.apart;rcases Nat.lt_trichotomy i j with h1 | h1 | h1
  · have := hp i j i1 j1 h1
    rw [i2, j2] at this; exact Bm8 this
  · subst h1; rw [hi] at hj; injection hj with hj; exact (hne (by rw [hj])).elim
  · have := hp j i j1 i1 h1
    rw [i2, j2] at this; exact this
theorem gs_yes {s : E9} (g : GS s) {h : D2} (hm : h ∈ s.Held) {t : Int} (hx : AS6 h.Txn = true) (hT : AT8 s.Told h.Txn = false) (ht : h.Time ≤ t ∧ t ≤ 100000) {q : List B6} (hp : j3 s.Cells h.Writes t = some q) (hq : AA6 q = true) :
    GS ⟨if s.Floor < t then t else s.Floor, q, AC1 s.Held h.Txn, AX1 ⟨h.Txn, true, t⟩ s.Told⟩ := by
  have hw := Cn9 (Cx9 g hm);have ha := (AI3 g.cells).2.1;have hqa := (AI3 hq).2.1;have h0 := g.floor;have ht1 : 1 ≤ h.Time := by
    have := (g.good h hm).1;unfold T2 Ab5 at this;rw [D3 rfl] at this;unfold BE5 Aa0 within at this
    simp only [D8, H5] at this;omega
  refine CH2 g rfl hx hT (by split <;> omega) hq (fun c hc => ?_) (fun k hk w hwk => ?_) (fun k hk => ?_) ?_
  · rcases put_last hw ha hp c.Key with e | e
    · rw [e]; split <;> omega
    · rw [e]; have := DE7 g c.Key; split <;> omega
  · obtain ⟨k1, k2⟩ := Af0.1 hk
    refine (Be1 hw ha hp).2 _ fun hmem => ?_;obtain ⟨v, hv, e⟩ := m1.1 hmem;exact ((BF5.1 (DJ7 g hm k1 k2)).2 v hv).1 w hwk e.symm
  · rcases put_keys hw ha hqa hp k hk with e | e
    · exact Or.inl e
    · refine Or.inr ?_
      unfold T8 at e ⊢;obtain ⟨w, hw2, e⟩ := m1.1 e;exact m1.2 ⟨w, BB3.2 ⟨h, hm, hw2⟩, e⟩
  · rw [D3 rfl]; unfold within; simp only [D8, H5]; split <;> omega
theorem good2_of {r : N9} (h : T2 r = true) (h4 : r.Kind ≠ 4) (h1 : r.Kind ≠ 1) : Bu3 r = true := by
  unfold T2 at h;rw [C5 h1] at h;split at h
  · exact h
  · cases h
theorem Bt6 {l : List B6} {w : List A5} {t : Int} (h : (AK3 l w t).2 = true) : j3 l w t = some (AK3 l w t).1 ∧ AA6 (AK3 l w t).1 = true := by
  unfold AK3 at h ⊢
  cases hp : j3 l w t with
  | none => rw [hp] at h; cases h
  | some q => rw [hp] at h; dsimp only at h ⊢; exact ⟨rfl, by rw [AI7]; exact h⟩
theorem gs_apply {s : E9} (g : GS s) {r : N9} (hr : T2 r = true) (h : (W6 s r).2 = true) : GS (W6 s r).1 := by
  have htm := Co1 hr;unfold W6 at h ⊢;by_cases h4 : r.Kind = 4
  · rw [D3 h4] at h ⊢
    exact gs_floor g (by have := AD2 h; omega) htm.2
  · rw [C5 h4] at h ⊢
    by_cases hT : AT8 s.Told r.Txn = true
    · rw [D3 hT] at h; cases h
    · rw [C5 hT] at h ⊢
      rw [Bool.not_eq_true] at hT;by_cases h1 : r.Kind = 1
      · rw [D3 h1] at h ⊢
        simp only [D8, q7, H5] at h;exact DJ6 g hr h1 h.1.1 hT h.1.2 h.2
      · rw [C5 h1] at h ⊢
        have h2 := good2_of hr h4 h1;unfold Bu3 at h2;simp only [D8, AB1, q7, i8] at h2;obtain ⟨⟨_, hx⟩, h3⟩ := h2;by_cases hy : r.Yes = true
        · rw [D3 hy] at h ⊢
          cases hf : AH7 s.Held r.Txn with
          | none => rw [hf] at h; cases h
          | some k =>
            rw [hf] at h;dsimp only at h ⊢;by_cases hlt : r.Time < k.Time
            · rw [D3 hlt] at h; cases h
            · rw [C5 hlt] at h ⊢
              by_cases hp : (AK3 s.Cells k.Writes r.Time).2 = true
              · rw [D3 hp]
                obtain ⟨p1, p2⟩ := Bt6 hp;obtain ⟨k1, k2⟩ := Ao1 hf;have := gs_yes g k1 (t := r.Time) (by rw [k2]; exact hx) (by rw [k2]; exact hT) ⟨by omega, htm.2⟩ p1 p2;rw [k2] at this;unfold AQ1; rw [hy]; exact this
              · rw [C5 hp] at h; cases h
        · rw [C5 hy]
          rw [Bool.not_eq_true] at hy;rw [hy] at h3;simp only [Bool.false_eq_true, false_and, true_and, false_or] at h3;have h0 := g.floor;unfold AQ1;refine CH2 g rfl hx hT ⟨Int.le_refl _, h0.2⟩ g.cells g.last (fun _ _ _ _ => rfl) (fun k hk => Or.inl hk) ?_;rw [hy, h3]; rfl
theorem BY0 : GS U9 where
  floor := by decide
  cells := by decide
  good := fun h hm => by cases hm
  hsort := List.Pairwise.nil
  apart := List.Pairwise.nil
  hlen := by decide
  room := by
    unfold room Aq6;rw [D8];refine ⟨rfl, q8 ?_⟩;exact L4 (BS0 _) D4
  tlen := by decide
  last := fun c hc => by cases hc
  told := fun t ht => by cases ht
  tsort := List.Pairwise.nil
theorem gs_step {s : E9} (g : GS s) {r : N9} (hr : T2 r = true) : GS (AJ9 s r) := by
  unfold AJ9;split
  · exact gs_apply g hr ‹_›
  · exact g
theorem CR8 : ∀ {l : List N9} {s : E9}, GS s → (∀ r ∈ l, T2 r = true) → GS (Y3 s l)
  | [], s, g, _ => g
  | r :: l, s, g, h => by
    show GS (Y3 (AJ9 s r) l)
    exact CR8 (gs_step g (h r a8)) fun x hx => h x (S7 _ hx)
def settled (s : E9) : Int := s.Held.foldl (fun o h => min o (h.Time - 1)) s.Floor
structure Keeps (s s' : E9) : Prop where
  floor : s.Floor ≤ s'.Floor
  told : ∀ t ∈ s.Told, t ∈ s'.Told
  tlen : s.Told.length ≤ s'.Told.length
  settled : settled s ≤ settled s'
  cells : ∀ a, a ≤ M.settled s → DH0 s'.Cells a = DH0 s.Cells a
theorem DT3 {l : List G7} (h : l.Pairwise fun a b => a.Txn < b.Txn) {a b : G7} (ha : a ∈ l) (hb : b ∈ l) (e : a.Txn = b.Txn) : a = b := by
  obtain ⟨i, hi⟩ := i7 ha;obtain ⟨j, hj⟩ := i7 hb;obtain ⟨i1, i2⟩ := G2.1 hi;obtain ⟨j1, j2⟩ := G2.1 hj;have hp := List.pairwise_iff_getElem.1 h;rcases Nat.lt_trichotomy i j with h1 | h1 | h1
  · have := hp i j i1 j1 h1; rw [i2, j2] at this; omega
  · subst h1; rw [hi] at hj; injection hj
  · have := hp j i j1 i1 h1; rw [i2, j2] at this; omega
theorem DT4 {l : List G7} (h : l.Pairwise fun a b => a.Txn < b.Txn) {t : G7} (ht : t ∈ l) : Ac2 l t.Txn = some t := by
  unfold Ac2
  cases e : l.find? fun x => x.Txn == t.Txn with
  | none => rw [List.find?_eq_none] at e; have := e t ht; simp at this
  | some u => rw [DT3 h (Ah2 e) ht (by simpa using List.find?_some e)]
def AD0 : List Str := [[97], [98], [99], [109], [110], [122], [114, 47, 49], [105, 47, 120, 47, 49]]
def valD : List Str := [[], [49], [55], [49, 48], [45, 51], [120], [97, 44, 98, 95, 99]]
def keyS : List Str := [[97], [98], [99], [105, 47, 120, 47, 49], [109], [110], [114, 47, 49], [122]]
theorem AZ3 {k : Str} (h : k ∈ AD0) : q6 k = true ∧ k.length ≤ 5 := by
  have : ∀ k ∈ AD0, q6 k = true ∧ k.length ≤ 5 := by decide
  exact this k h
def Aa1 (t : Int) : Int → List K4 → Bool
  | _, [] => true
  | p, e :: l => (within e.Term p t && T2 e.Rec) && Aa1 t e.Term l
def AF1 (r : F7) (t : Int) : Bool := (decide ((r.Log.length : Int) ≤ 60) && within r.Sure 0 r.Log.length) && Aa1 t 1 r.Log
def AS7 (n : Int) : Bool := n == 3 || n == 5
def Ap3 (g : D0) (r : Int) : Bool := within r 0 ((g.Reps.length : Int) - 1)
def P0 (g : D0) (r : Int) : F7 := (g.Reps[r.toNat]?).getD ⟨false, [], 0⟩
def j5 (g : D0) : Bool := ((AS7 g.Reps.length && within g.Term 0 200) && (g.Lead == -1 || (Ap3 g g.Lead && (P0 g g.Lead).Up))) && g.Reps.all fun r => AF1 r g.Term
def AO7 : D0 := ⟨[], 0, 0⟩
structure GR (r : F7) (t : Int) : Prop where
  len : r.Log.length ≤ 60
  sure : 0 ≤ r.Sure ∧ r.Sure ≤ r.Log.length
  ents : ∀ e ∈ r.Log, 1 ≤ e.Term ∧ e.Term ≤ t ∧ T2 e.Rec = true
  sorted : r.Log.Pairwise fun a b => a.Term ≤ b.Term
structure GG (g : D0) : Prop where
  many : g.Reps.length = 3 ∨ g.Reps.length = 5
  term : 0 ≤ g.Term ∧ g.Term ≤ 200
  lead : g.Lead = -1 ∨ (0 ≤ g.Lead ∧ g.Lead < g.Reps.length ∧ (P0 g g.Lead).Up = true)
  reps : ∀ r ∈ g.Reps, GR r g.Term
theorem CZ7 {t : Int} : ∀ {l : List K4} {p : Int}, Aa1 t p l = true ↔ (∀ e ∈ l, p ≤ e.Term ∧ e.Term ≤ t ∧ T2 e.Rec = true) ∧ l.Pairwise fun a b => a.Term ≤ b.Term
  | [], p => by simp [Aa1]
  | e :: l, p => by
    unfold Aa1 within
    rw [D8, D8, D8, H5, H5, CZ7, AH3];constructor
    · rintro ⟨⟨⟨h1, h2⟩, h3⟩, h4, h5⟩
      refine ⟨fun x hx => ?_, fun x hx => (h4 x hx).1, h5⟩;rcases T0.1 hx with rfl | hx
      · exact ⟨h1, h2, h3⟩
      · have := h4 x hx; exact ⟨by omega, this.2⟩
    · rintro ⟨h1, h2, h3⟩
      have h0 := h1 e a8;exact ⟨⟨⟨h0.1, h0.2.1⟩, h0.2.2⟩, fun x hx => ⟨h2 x hx, (h1 x (S7 _ hx)).2⟩, h3⟩
theorem Cy0 {r : F7} {t : Int} : AF1 r t = true ↔ GR r t := by
  unfold AF1 within
  simp only [D8, H5, CZ7];constructor
  · rintro ⟨⟨h1, h2, h3⟩, h4, h5⟩; exact ⟨by omega, ⟨h2, h3⟩, h4, h5⟩
  · rintro ⟨h1, ⟨h2, h3⟩, h4, h5⟩; exact ⟨⟨by omega, h2, h3⟩, h4, h5⟩
theorem Al8 {g : D0} {r : Int} : Ap3 g r = true ↔ 0 ≤ r ∧ r < g.Reps.length := by
  unfold Ap3 within; simp only [D8, H5]; omega
theorem AN7 {g : D0} : j5 g = true ↔ GG g := by
  unfold j5 AS7 within
  simp only [D8, AB1, H5, i8, Y6, Cy0, Al8];constructor
  · rintro ⟨⟨⟨h1, h2⟩, h3⟩, h4⟩
    refine ⟨by omega, h2, ?_, h4⟩;rcases h3 with h | ⟨⟨h, k⟩, l⟩
    · exact .inl h
    · exact .inr ⟨h, k, l⟩
  · rintro ⟨h1, h2, h3, h4⟩
    refine ⟨⟨⟨by omega, h2⟩, ?_⟩, h4⟩;rcases h3 with h | ⟨h, k, l⟩
    · exact .inl h
    · exact .inr ⟨⟨h, k⟩, l⟩
theorem AC3 {g : D0} {r : Int} (h : 0 ≤ r ∧ r < g.Reps.length) : g.Reps[r.toNat]? = some (P0 g r) := by
  unfold P0;rw [P2 (show r.toNat < g.Reps.length by omega)]; rfl
theorem repAt_of {g : D0} {r : Int} {x : F7} (h : g.Reps[r.toNat]? = some x) : P0 g r = x := by unfold P0; rw [h]; rfl
theorem AK6 {g : D0} {r : Int} (h : 0 ≤ r ∧ r < g.Reps.length) : P0 g r ∈ g.Reps := C2 (AC3 h)
def Ae2 (g : D0) (r : Int) (x : F7) : D0 := ⟨g.Reps.set r.toNat x, g.Term, g.Lead⟩
def BP6 (g : D0) (r : Int) (up : Bool) : Bool := (j5 g && Ap3 g r) && ((P0 g r).Up == up)
def AD1 (g : D0) (r : Int) : D0 × Bool :=
  if BP6 g r true = true then (⟨g.Reps.set r.toNat ⟨false, (P0 g r).Log, (P0 g r).Sure⟩, g.Term, if g.Lead = r then -1 else g.Lead⟩, true) else (AO7, false)
def AE6 (g : D0) (r : Int) : D0 × Bool :=
  if BP6 g r false = true then (⟨g.Reps.set r.toNat ⟨true, (P0 g r).Log, (P0 g r).Sure⟩, g.Term, g.Lead⟩, true) else (AO7, false)
def Ab7 (l : List K4) : Int := match l.getLast? with | some e => e.Term | none => 0
def BC2 (a b : List K4) : Bool := decide (Ab7 b < Ab7 a) || (Ab7 a == Ab7 b && decide (b.length < a.length))
def Br0 (g : D0) (p : F7 → Bool) : Bool := decide ((g.Reps.length : Int) < 2 * ((g.Reps.filter p).length : Int))
def j7 (g : D0) (r : Int) : D0 × Bool :=
  if (BP6 g r true && !(g.Term == 200)) = true ∧ Br0 g (fun x => x.Up && !BC2 x.Log (P0 g r).Log) = true then (⟨g.Reps, g.Term + 1, r⟩, true) else (AO7, false)
def Ai8 (g : D0) : Bool := j5 g && decide (0 ≤ g.Lead)
def AK0 (g : D0) (r : N9) : D0 × Bool :=
  if (Ai8 g && T2 r) = true ∧ (P0 g g.Lead).Log.length < 60 then (Ae2 g g.Lead ⟨(P0 g g.Lead).Up, (P0 g g.Lead).Log ++ [⟨g.Term, r⟩], (P0 g g.Lead).Sure⟩, true) else (AO7, false)
def AO4 (g : D0) (r : Int) : D0 × Bool :=
  if (BP6 g r true && decide (0 ≤ g.Lead)) = true ∧ g.Lead ≠ r then (Ae2 g r ⟨true, (P0 g g.Lead).Log, min ((P0 g g.Lead).Log.length : Int) (max (P0 g r).Sure (P0 g g.Lead).Sure)⟩, true) else (AO7, false)
def Aa2 (a b : List K4) (n : Nat) : Bool := decide (n ≤ a.length ∧ n ≤ b.length ∧ a.take n = b.take n)
def Az6 (g : D0) (n : Nat) : Bool := decide ((((P0 g g.Lead).Log[n - 1]?).map K4.Term) = some g.Term) && Br0 g fun x => Aa2 x.Log (P0 g g.Lead).Log n
def AI1 (p : Nat → Bool) (lo : Nat) : Nat → Option Nat
  | 0 => none
  | n + 1 => if n + 1 ≤ lo then none else if p (n + 1) = true then some (n + 1) else AI1 p lo n
def AT9 (g : D0) : D0 × Bool :=
  if Ai8 g = true then (match AI1 (Az6 g) (P0 g g.Lead).Sure.toNat (P0 g g.Lead).Log.length with
    | some n => (Ae2 g g.Lead ⟨(P0 g g.Lead).Up, (P0 g g.Lead).Log, (n : Int)⟩, true)
    | none => (g, true)) else (AO7, false)
theorem Bi3 {p : Nat → Bool} {lo : Nat} : ∀ {k n : Nat}, AI1 p lo k = some n → lo < n ∧ n ≤ k ∧ p n = true
  | 0, n, h => by cases h
  | k + 1, n, h => by
    unfold AI1 at h;split at h
    · cases h
    · split at h
      · injection h with h; subst h; exact ⟨by omega, N2 _, ‹_›⟩
      · have := Bi3 h; exact ⟨this.1, by omega, this.2.2⟩
theorem Al9 {g : D0} {r : Int} {up : Bool} : BP6 g r up = true ↔ GG g ∧ (0 ≤ r ∧ r < g.Reps.length) ∧ (P0 g r).Up = up := by
  unfold BP6;rw [D8, D8, AN7, Al8, i8];constructor
  · rintro ⟨⟨a, b⟩, c⟩; exact ⟨a, b, c⟩
  · rintro ⟨a, b, c⟩; exact ⟨⟨a, b⟩, c⟩
theorem Aq2 {g : D0} : Ai8 g = true ↔ GG g ∧ 0 ≤ g.Lead ∧ g.Lead < g.Reps.length ∧ (P0 g g.Lead).Up = true := by
  unfold Ai8;rw [D8, AN7, H5];constructor
  · rintro ⟨a, b⟩
    rcases a.lead with h | ⟨h1, h2, h3⟩
    · omega
    · exact ⟨a, h1, h2, h3⟩
  · rintro ⟨a, b, _⟩; exact ⟨a, b⟩
theorem CR9 {g : D0} {r : Int} {x : F7} {t l : Int} (h : 0 ≤ r ∧ r < g.Reps.length) : P0 ⟨g.Reps.set r.toNat x, t, l⟩ r = x := by
  unfold P0;dsimp only;rw [AZ9 qz8]; rfl
theorem BN6 {g : D0} {r q : Int} {x : F7} {t l : Int} (hr : 0 ≤ r) (hq : 0 ≤ q) (h : q ≠ r) : P0 ⟨g.Reps.set r.toNat x, t, l⟩ q = P0 g q := by
  unfold P0;dsimp only;rw [Aj7 qz8]
theorem gr_mono {r : F7} {t u : Int} (h : GR r t) (k : t ≤ u) : GR r u := ⟨h.len, h.sure, fun e he => by have := h.ents e he; exact ⟨this.1, by omega, this.2.2⟩, h.sorted⟩
theorem CB3 {g : D0} (h : GG g) {r : Int} {x : F7} (hx : GR x g.Term) : ∀ y ∈ g.Reps.set r.toNat x, GR y g.Term := fun y hy => by
  rcases List.mem_or_eq_of_mem_set hy with hy | rfl
  · exact h.reps y hy
  · exact hx
theorem DJ8 {g : D0} {r : Int} (h : (AD1 g r).2 = true) : GG (AD1 g r).1 ∧ (AD1 g r).1.Reps.length = g.Reps.length := by
  unfold AD1 at h ⊢;by_cases hc : BP6 g r true = true
  · rw [D3 hc] at h ⊢
    obtain ⟨gg, hr, hu⟩ := Al9.1 hc;have hg := gg.reps _ (AK6 hr);refine ⟨⟨?_, gg.term, ?_, CB3 gg ⟨hg.len, hg.sure, hg.ents, hg.sorted⟩⟩, Z1 ..⟩
    · show (g.Reps.set _ _).length = 3 ∨ (g.Reps.set _ _).length = 5
      rw [Z1]; exact gg.many
    · dsimp only
      by_cases hl : g.Lead = r
      · rw [D3 hl]; exact .inl rfl
      · rw [C5 hl]
        rcases gg.lead with e | ⟨a, b, c⟩
        · exact .inl e
        · refine .inr ⟨a, by rw [Z1]; exact b, ?_⟩
          have := BN6 (g := g) (x := ⟨false, (P0 g r).Log, (P0 g r).Sure⟩) (t := g.Term) (l := g.Lead) hr.1 a hl;rw [this]; exact c
  · rw [C5 hc] at h; cases h
theorem DJ9 {g : D0} {r : Int} (h : (AE6 g r).2 = true) : GG (AE6 g r).1 ∧ (AE6 g r).1.Reps.length = g.Reps.length := by
  unfold AE6 at h ⊢;by_cases hc : BP6 g r false = true
  · rw [D3 hc] at h ⊢
    obtain ⟨gg, hr, hu⟩ := Al9.1 hc;have hg := gg.reps _ (AK6 hr);refine ⟨⟨?_, gg.term, ?_, CB3 gg ⟨hg.len, hg.sure, hg.ents, hg.sorted⟩⟩, Z1 ..⟩
    · show (g.Reps.set _ _).length = 3 ∨ (g.Reps.set _ _).length = 5
      rw [Z1]; exact gg.many
    · dsimp only
      rcases gg.lead with e | ⟨a, b, c⟩
      · exact .inl e
      · refine .inr ⟨a, by rw [Z1]; exact b, ?_⟩
        by_cases hl : g.Lead = r
        · rw [hl] at c; rw [hu] at c; cases c
        · have := BN6 (g := g) (x := ⟨true, (P0 g r).Log, (P0 g r).Sure⟩) (t := g.Term) (l := g.Lead) hr.1 a hl
          rw [this]; exact c
  · rw [C5 hc] at h; cases h
theorem CH3 {g : D0} {r : Int} (h : (j7 g r).2 = true) : GG (j7 g r).1 ∧ (j7 g r).1.Reps.length = g.Reps.length ∧ (j7 g r).1.Lead = r ∧ 0 ≤ r ∧ r < g.Reps.length := by
  unfold j7 at h ⊢;split at h
  · rename_i hc
    rw [D3 hc];rw [D8, q7, beq_eq_false_iff_ne] at hc;obtain ⟨gg, hr, hu⟩ := Al9.1 hc.1.1;have ht := gg.term;exact ⟨⟨gg.many, by dsimp only; omega, .inr ⟨hr.1, hr.2, hu⟩, fun y hy => gr_mono (gg.reps y hy) (by dsimp only; omega)⟩, rfl, rfl, hr.1, hr.2⟩
  · cases h
theorem BV2 {g : D0} (gg : GG g) {r : Int} (hr : 0 ≤ r ∧ r < g.Reps.length) {x : F7} (hx : GR x g.Term) (hu : x.Up = (P0 g r).Up) : GG (Ae2 g r x) := by
  refine ⟨?_, gg.term, ?_, CB3 gg hx⟩
  · show (g.Reps.set _ _).length = 3 ∨ (g.Reps.set _ _).length = 5
    rw [Z1]; exact gg.many
  · show g.Lead = -1 ∨ (0 ≤ g.Lead ∧ g.Lead < ((g.Reps.set r.toNat x).length : Int) ∧ (P0 ⟨g.Reps.set r.toNat x, g.Term, g.Lead⟩ g.Lead).Up = true)
    rcases gg.lead with e | ⟨a, b, c⟩
    · exact .inl e
    · refine .inr ⟨a, by rw [Z1]; exact b, ?_⟩
      by_cases hl : g.Lead = r
      · have := CR9 (g := g) (x := x) (t := g.Term) (l := g.Lead) hr
        rw [hl] at c this ⊢;rw [this, hu]; exact c
      · have := BN6 (g := g) (x := x) (t := g.Term) (l := g.Lead) hr.1 a hl
        rw [this]; exact c
theorem Be5 (g : D0) (r : Int) (x : F7) : (Ae2 g r x).Reps.length = g.Reps.length := Z1 ..
theorem DT5 {g : D0} {r : N9} (ht : 1 ≤ g.Term) (h : (AK0 g r).2 = true) : GG (AK0 g r).1 ∧ (AK0 g r).1.Reps.length = g.Reps.length ∧ (AK0 g r).1.Lead = g.Lead := by
  unfold AK0 at h ⊢;split at h
  · rename_i hc
    rw [D3 hc];rw [D8] at hc;obtain ⟨gg, h1, h2, h3⟩ := Aq2.1 hc.1.1;have hg := gg.reps _ (AK6 ⟨h1, h2⟩);refine ⟨BV2 gg ⟨h1, h2⟩ ⟨?_, ?_, fun e he => ?_, ?_⟩ rfl, Be5 .., rfl⟩
    · rw [G3]; have := hc.2; simp; omega
    · have := hg.sure; rw [G3]; simp; omega
    · rcases u6.1 he with he | he
      · exact hg.ents e he
      · rw [X9.1 he]
        exact ⟨ht, Int.le_refl _, hc.1.2⟩
    · rw [List.pairwise_append]
      exact ⟨hg.sorted, List.pairwise_singleton _ _, fun a ha b hb => by rw [X9.1 hb]; exact (hg.ents a ha).2.1⟩
  · cases h
theorem DT6 {g : D0} {r : Int} (h : (AO4 g r).2 = true) : GG (AO4 g r).1 ∧ (AO4 g r).1.Reps.length = g.Reps.length ∧ (AO4 g r).1.Lead = g.Lead := by
  unfold AO4 at h ⊢;split at h
  · rename_i hc
    rw [D3 hc];rw [D8, H5] at hc;obtain ⟨gg, hr, hu⟩ := Al9.1 hc.1.1;have hl : 0 ≤ g.Lead ∧ g.Lead < g.Reps.length := by rcases gg.lead with e | ⟨a, b, _⟩; omega; exact ⟨a, b⟩
    have hg := gg.reps _ (AK6 hl);have hq := gg.reps _ (AK6 hr);refine ⟨BV2 gg hr ⟨hg.len, ?_, hg.ents, hg.sorted⟩ hu.symm, Be5 .., rfl⟩;have h1 := hg.sure;have h2 := hq.sure;dsimp only;omega
  · cases h
theorem adv_good {g : D0} (h : (AT9 g).2 = true) : GG (AT9 g).1 ∧ (AT9 g).1.Reps.length = g.Reps.length ∧ (AT9 g).1.Lead = g.Lead := by
  unfold AT9 at h ⊢;split at h
  · rename_i hc
    rw [D3 hc];obtain ⟨gg, h1, h2, h3⟩ := Aq2.1 hc;have hg := gg.reps _ (AK6 ⟨h1, h2⟩);split
    · rename_i n hn
      have := Bi3 hn;exact ⟨BV2 gg ⟨h1, h2⟩ ⟨hg.len, ⟨by dsimp only; omega, by dsimp only; omega⟩, hg.ents, hg.sorted⟩ rfl, Be5 .., rfl⟩
    · exact ⟨gg, rfl, rfl⟩
  · cases h
theorem Be6 {g : D0} {r : Int} : ((AD1 g r).2 = true → (AD1 g r).1.Term = g.Term) ∧ ((AE6 g r).2 = true → (AE6 g r).1.Term = g.Term) ∧ ((j7 g r).2 = true → (j7 g r).1.Term = g.Term + 1) ∧ ((AO4 g r).2 = true → (AO4 g r).1.Term = g.Term) := by
  unfold AD1 AE6 j7 AO4 Ae2;refine ⟨?_, ?_, ?_, ?_⟩ <;> (split <;> intro h <;> first | rfl | cases h)
theorem DT7 {g : D0} {r : N9} (h : (AK0 g r).2 = true) : (AK0 g r).1.Term = g.Term := by
  unfold AK0 Ae2 at *;split <;> first | rfl | (rename_i hc; rw [C5 hc] at h; cases h)
theorem adv_term {g : D0} (h : (AT9 g).2 = true) : (AT9 g).1.Term = g.Term := by
  unfold AT9 Ae2 at *;split at h
  · rw [D3 ‹_›]; split <;> rfl
  · cases h
theorem DK0 {g : D0} {r : Int} (h : (AD1 g r).2 = true) : (AD1 g r).1.Lead = -1 ∨ (AD1 g r).1.Lead = g.Lead := by
  unfold AD1 at h ⊢;split at h
  · rw [D3 ‹_›]; dsimp only; split; exact .inl rfl; exact .inr rfl
  · cases h
theorem DK1 {g : D0} {r : Int} (h : (AE6 g r).2 = true) : (AE6 g r).1.Lead = g.Lead := by
  unfold AE6 at h ⊢;split at h
  · rw [D3 ‹_›]
  · cases h
def AR7 (P : N9 → Prop) (g : D0) : Prop := ∀ r ∈ g.Reps, ∀ e ∈ r.Log, P e.Rec
theorem BF7 {P : N9 → Prop} {g : D0} (h : AR7 P g) (r : Int) : ∀ e ∈ (P0 g r).Log, P e.Rec := by
  intro e he;unfold P0 at he
  cases hx : g.Reps[r.toNat]? with
  | none => rw [hx] at he; cases he
  | some x => rw [hx] at he; exact h x (C2 hx) e he
theorem BY1 {P : N9 → Prop} {g : D0} (h : AR7 P g) {r : Int} {x : F7} (hx : ∀ e ∈ x.Log, P e.Rec) {t l : Int} : AR7 P ⟨g.Reps.set r.toNat x, t, l⟩ := by
  intro y hy;rcases List.mem_or_eq_of_mem_set hy with hy | rfl
  · exact h y hy
  · exact hx
theorem Ao2 {P : N9 → Prop} : AR7 P AO7 := fun r hr => by cases hr
theorem DT8 {P : N9 → Prop} {g : D0} {r : Int} (h : AR7 P g) : AR7 P (AD1 g r).1 := by
  unfold AD1;split
  · refine BY1 h ?_; exact BF7 h r
  · exact Ao2
theorem DT9 {P : N9 → Prop} {g : D0} {r : Int} (h : AR7 P g) : AR7 P (AE6 g r).1 := by
  unfold AE6;split
  · refine BY1 h ?_; exact BF7 h r
  · exact Ao2
theorem DU0 {P : N9 → Prop} {g : D0} {r : Int} (h : AR7 P g) : AR7 P (j7 g r).1 := by
  unfold j7;split
  · exact h
  · exact Ao2
theorem put_log {P : N9 → Prop} {g : D0} {r : N9} (h : AR7 P g) (hr : P r) : AR7 P (AK0 g r).1 := by
  unfold AK0;split
  · refine BY1 h fun e he => ?_
    rcases u6.1 he with he | he
    · exact BF7 h _ e he
    · rw [X9.1 he]; exact hr
  · exact Ao2
theorem copy_log {P : N9 → Prop} {g : D0} {r : Int} (h : AR7 P g) : AR7 P (AO4 g r).1 := by
  unfold AO4;split
  · refine BY1 h ?_; exact BF7 h g.Lead
  · exact Ao2
theorem adv_log {P : N9 → Prop} {g : D0} (h : AR7 P g) : AR7 P (AT9 g).1 := by
  unfold AT9;split
  · split
    · refine BY1 h ?_; exact BF7 h g.Lead
    · exact h
  · exact Ao2
def Aq8 (r : N9) : Prop := ∀ w ∈ r.Writes, w.Key ∈ AD0
structure WG (g : D0) : Prop where
  good : GG g
  three : g.Reps.length = 3
  led : 0 ≤ g.Lead → 1 ≤ g.Term
  keys : AR7 Aq8 g
theorem wg_crash {g : D0} {r : Int} (w : WG g) (h : (AD1 g r).2 = true) : WG (AD1 g r).1 := by
  have h1 := DJ8 h;refine ⟨h1.1, h1.2.trans w.three, fun hl => ?_, DT8 w.keys⟩;have := w.led;rw [(Be6 (g := g) (r := r)).1 h];rcases DK0 h with e | e <;> rw [e] at hl
  · omega
  · exact this hl
theorem wg_start {g : D0} {r : Int} (w : WG g) (h : (AE6 g r).2 = true) : WG (AE6 g r).1 := by
  have h1 := DJ9 h;refine ⟨h1.1, h1.2.trans w.three, fun hl => ?_, DT9 w.keys⟩;rw [(Be6 (g := g) (r := r)).2.1 h];rw [DK1 h] at hl;exact w.led hl
theorem wg_elect {g : D0} {r : Int} (w : WG g) (h : (j7 g r).2 = true) : WG (j7 g r).1 := by
  have h1 := CH3 h;refine ⟨h1.1, h1.2.1.trans w.three, fun hl => ?_, DU0 w.keys⟩;rw [(Be6 (g := g) (r := r)).2.2.1 h];have := w.good.term;omega
theorem wg_copy {g : D0} {r : Int} (w : WG g) (h : (AO4 g r).2 = true) : WG (AO4 g r).1 := by
  have h1 := DT6 h;refine ⟨h1.1, h1.2.1.trans w.three, fun hl => ?_, copy_log w.keys⟩;rw [(Be6 (g := g) (r := r)).2.2.2 h];rw [h1.2.2] at hl;exact w.led hl
theorem wg_put {g : D0} {r : N9} (w : WG g) (hl : 0 ≤ g.Lead) (hk : Aq8 r) (h : (AK0 g r).2 = true) : WG (AK0 g r).1 := by
  have h1 := DT5 (w.led hl) h;refine ⟨h1.1, h1.2.1.trans w.three, fun _ => ?_, put_log w.keys hk⟩;rw [DT7 h]; exact w.led hl
theorem wg_adv {g : D0} (w : WG g) (h : (AT9 g).2 = true) : WG (AT9 g).1 := by
  have h1 := adv_good h;refine ⟨h1.1, h1.2.1.trans w.three, fun hl => ?_, adv_log w.keys⟩;rw [adv_term h];rw [h1.2.2] at hl;exact w.led hl
def DQ9 (a b : Ad9) : Bool := (a.Ver == b.Ver) && decide (a.Cuts = b.Cuts) && decide (a.Groups = b.Groups)
def hit (r : Ad9 × Bool) (b : Ad9) : Bool := r.2 && DQ9 r.1 b
abbrev AE3 (n : Nat) : Str := Lib.decDigits n
abbrev Z6 (n : Int) : Str := Lib.itoa n
theorem AT4 {n : Nat} (h : n < 10) : AE3 n = [UInt8.ofNat (48 + n)] := Lib.decDigits_one h
theorem Ag5 {n : Nat} (h : ¬ n < 10) : AE3 n = AE3 (n / 10) ++ [UInt8.ofNat (48 + n % 10)] := by
  show Lib.decDigits n = _
  rw [Lib.decDigits, dif_neg h]
theorem At8 : ∀ {k n : Nat}, n < 10 ^ k → 1 ≤ k → (AE3 n).length ≤ k
  | 0, _, _, h => by omega
  | k + 1, n, h, _ => by
    by_cases hn : n < 10
    · rw [AT4 hn]; simp
    · rw [Ag5 hn, G3]
      have : k ≠ 0 := by rintro rfl; simp at h; omega
      have h2 := At8 (k := k) (n := n / 10) (by rw [Nat.pow_succ] at h; omega) qz8;simp only [I9, Q8]; omega
theorem At9 (n : Nat) : Z6 n = AE3 n := Lib.itoa_nonneg n
theorem Co3 {n : Int} (h : 0 ≤ n) : Z6 n = AE3 n.toNat := by
  obtain ⟨m, rfl⟩ : ∃ m : Nat, n = (m : Int) := ⟨n.toNat, by omega⟩;rw [At9]; rfl
theorem itoa_len {n : Int} (h : 0 ≤ n ∧ n ≤ 1000000) : (Z6 n).length ≤ 7 := by
  rw [Co3 h.1];exact At8 qz8 D4
theorem u8w2 {x : Int} {m : Nat} (h : x % 256 = ((m % 256 : Nat) : Int)) : IntKind.u8.wrap x = ((UInt8.ofNat m).toNat : Int) := by
  have : (UInt8.ofNat m).toNat = m % 256 := by simp
  rw [this, ← h];simp [IntKind.wrap, IntKind.bits, IntKind.signed]
theorem dig1 (n : Nat) : IntKind.u8.wrap (48 + (n : Int)) = ((UInt8.ofNat (48 + n)).toNat : Int) := u8w2 qz8
theorem tmod10T (n : Nat) : (n : Int).tmod 10 = ((n % 10 : Nat) : Int) := rfl
theorem dig2 (n : Nat) : IntKind.u8.wrap (48 + (n : Int).tmod 10) = ((UInt8.ofNat (48 + n % 10)).toNat : Int) := by
  rw [show (n : Int).tmod 10 = ((n % 10 : Nat) : Int) from rfl]; exact u8w2 qz8
theorem quo10 {n : Nat} (h : n ≤ 1000000000000) : IntKind.i64.wrap ((n : Int).tdiv 10) = ((n / 10 : Nat) : Int) := by
  rw [show (n : Int).tdiv 10 = ((n / 10 : Nat) : Int) from rfl];simp [IntKind.wrap, IntKind.bits, IntKind.signed];omega
def BE8 (b : UInt8) : Bool := decide (48 ≤ b.toNat) && decide (b.toNat ≤ 57)
theorem CB4 (n : Nat) : ∀ b ∈ AE3 n, 48 ≤ b.toNat ∧ b.toNat ≤ 57 := by
  induction n using Nat.strongRecOn with
  | ind n ih =>
    intro b hb;by_cases h : n < 10
    · rw [AT4 h] at hb
      rw [X9.1 hb];have : (UInt8.ofNat (48 + n)).toNat = (48 + n) % 256 := by simp
      omega
    · rw [Ag5 h] at hb
      rcases u6.1 hb with hb | hb
      · exact ih (n / 10) qz8 b hb
      · rw [X9.1 hb]
        have : (UInt8.ofNat (48 + n % 10)).toNat = (48 + n % 10) % 256 := by simp
        omega
theorem DU1 {n : Nat} (hn : 0 < n) : ∃ d r, AE3 n = d :: r ∧ d.toNat ≠ 48 := by
  induction n using Nat.strongRecOn with
  | ind n ih =>
    by_cases h : n < 10
    · refine ⟨_, _, AT4 h, ?_⟩
      have : (UInt8.ofNat (48 + n)).toNat = (48 + n) % 256 := by simp
      omega
    · obtain ⟨d, r, e, hd⟩ := ih (n / 10) qz8 qz8
      exact ⟨d, r ++ [UInt8.ofNat (48 + n % 10)], by rw [Ag5 h, e]; rfl, hd⟩
theorem Bt7 (n : Nat) : AE3 n ≠ [] := by
  by_cases h : n < 10
  · rw [AT4 h]; simp
  · rw [Ag5 h]; simp
theorem DE8 {d : UInt8} (hd : 48 ≤ d.toNat ∧ d.toNat ≤ 57) : ∀ (l : Str) (acc u : Nat), Lib.parseUint10 acc l = .ok u → u < 100000000000000000 → Lib.parseUint10 acc (l ++ [d]) = .ok (u * 10 + (d.toNat - 48))
  | [], acc, u, h, hu => by
    simp only [Lib.parseUint10] at h;injection h with h
    subst h;simp only [AO1, Lib.parseUint10];rw [D3 hd, C5 qz8, C5 qz8]
  | c :: r, acc, u, h, hu => by
    simp only [Lib.parseUint10] at h;show Lib.parseUint10 acc (c :: (r ++ [d])) = _
    simp only [Lib.parseUint10];split at h
    · rename_i h1
      rw [D3 h1];split at h
      · cases h
      · rename_i h2
        rw [C5 h2];split at h
        · cases h
        · rename_i h3
          rw [C5 h3];exact DE8 hd r _ u h hu
    · cases h
theorem pu_dec (n : Nat) : n ≤ 1000000000000 → Lib.parseUint10 0 (AE3 n) = .ok n := by
  induction n using Nat.strongRecOn with
  | ind n ih =>
    intro hn;by_cases h : n < 10
    · rw [AT4 h]
      have : (UInt8.ofNat (48 + n)).toNat = 48 + n := by simp; omega
      simp only [Lib.parseUint10, this];rw [D3 qz8, C5 qz8, C5 qz8];congr 1; omega
    · rw [Ag5 h]
      have h8 : (UInt8.ofNat (48 + n % 10)).toNat = 48 + n % 10 := by simp; omega
      rw [DE8 qz8 _ 0 (n / 10) (ih (n / 10) qz8 qz8) qz8, h8];congr 1; omega
theorem atoi_dec {n : Nat} (h : n ≤ 1000000000000) : Lib.atoiAll (AE3 n) = .ok (n : Int) := by
  have hp := pu_dec n h;have hdg := CB4 n
  cases hl : AE3 n with
  | nil => exact absurd hl (Bt7 n)
  | cons c r =>
    rw [hl] at hp hdg;have hc := hdg c a8;unfold Lib.atoiAll Lib.parseMag;dsimp only;rw [C5 (show ¬ (c.toNat = 43 ∨ c.toNat = 45) by omega), C5 Y1, hp];dsimp only;rw [C5 qz8, C5 qz8, C5 qz8]
def AU0 (s : Str) : Int := match Lib.atoiAll s with | .ok v => v | .range => Lib.atoiSat s | _ => 0
def AY2 (s : Str) : Bool := match Lib.atoiAll s with | .ok _ => false | _ => true
def AU1 (s : Str) (lo hi : Int) : Int × Bool := if ((AY2 s || !within (AU0 s) lo hi) || (Z6 (AU0 s) != s)) = true then (0, false) else (AU0 s, true)
theorem DU2 {n : Nat} {lo hi : Int} (h : n ≤ 1000000000000) (hw : within n lo hi = true) : AU1 (AE3 n) lo hi = ((n : Int), true) := by
  have e := atoi_dec h;have e1 : AU0 (AE3 n) = n := by unfold AU0; rw [e]
  have e2 : AY2 (AE3 n) = false := by unfold AY2; rw [e]
  unfold AU1;rw [e1, e2, hw, At9, C5 Y1]
def e6 (n : Nat) : Str → Int
  | [] => n
  | b :: s => if BE8 b = true then e6 (10 * n + (b.toNat - 48)) s else -1
def BG6 (s : Str) : Bool := !within s.length 1 6 || ((s.head?.map fun b => b == 48).getD false && decide ((1 : Int) < (s.length : Int)))
def l1R (s : Str) : Int := if BG6 s = true then -1 else e6 0 s
theorem DE9 {d : UInt8} (hd : 48 ≤ d.toNat ∧ d.toNat ≤ 57) : ∀ (s : Str) (m v : Nat), e6 m s = (v : Int) → e6 m (s ++ [d]) = ((10 * v + (d.toNat - 48) : Nat) : Int)
  | [], m, v, h => by
    simp only [e6] at h;have : m = v := by omega
    subst this;simp only [AO1, e6];rw [D3 (by unfold BE8; simp; omega)]
  | b :: s, m, v, h => by
    simp only [e6] at h;show e6 m (b :: (s ++ [d])) = _
    simp only [e6];split at h
    · rename_i h1
      rw [D3 h1];exact DE9 hd s _ v h
    · exfalso; omega
theorem rd_dec (n : Nat) : e6 0 (AE3 n) = (n : Int) := by
  induction n using Nat.strongRecOn with
  | ind n ih =>
    by_cases h : n < 10
    · rw [AT4 h]
      have h8 : (UInt8.ofNat (48 + n)).toNat = 48 + n := by simp; omega
      simp only [e6, h8];rw [D3 (by unfold BE8; rw [h8]; simp; omega)];congr 1; omega
    · rw [Ag5 h]
      have h8 : (UInt8.ofNat (48 + n % 10)).toNat = 48 + n % 10 := by simp; omega
      rw [DE9 qz8 _ 0 (n / 10) (ih (n / 10) qz8), h8];congr 1; omega
theorem DF0 {n : Nat} (h : n ≤ 999999) : l1R (AE3 n) = n := by
  have hl := At8 (k := 6) (n := n) qz8 D4;have hne := Bt7 n;have hpos : 1 ≤ (AE3 n).length := by
    cases hd : AE3 n with
    | nil => exact absurd hd hne
    | cons b r => simp
  unfold l1R;rw [C5, rd_dec];unfold BG6 within
  simp only [AB1, q7, D8, not_or, not_and];refine ⟨by simp; omega, fun hh hlt => ?_⟩;by_cases hz : n = 0
  · subst hz
    have : (AE3 0).length = 1 := by rw [AT4 D4]; rfl
    simp at hlt; omega
  · obtain ⟨d, r, e, hd⟩ := DU1 (n := n) qz8
    rw [e] at hh;simp at hh;rw [hh] at hd;exact hd rfl
theorem dec_no {n : Nat} {c : UInt8} (h : c.toNat < 48 ∨ 57 < c.toNat) : c ∉ AE3 n := fun hm => by
  have := CB4 n c hm; omega
structure GoodC (c : AG2) : Prop where
  time : ∃ t : Nat, c.Time = (t : Int) ∧ 1 ≤ t ∧ t ≤ 100000
  group : ∃ g : Nat, c.Group = (g : Int) ∧ g ≤ 3
  key : 1 ≤ c.Key.length ∧ (32 : UInt8) ∉ c.Key ∧ (61 : UInt8) ∉ c.Key
  val : (32 : UInt8) ∉ c.Val ∧ (61 : UInt8) ∉ c.Val
  gone : c.Gone = true → c.Val = []
def Ai9 (k : Int) : Bool := k == 2 || k == 7
def Aq9 (k : Int) : Bool := k == 4 || k == 5
def Au2 (o : TOp) : Bool := within o.Kind 1 7 && q6 o.Key && AO9 o.Val && (Ai9 o.Kind || o.Val == []) && within o.By (-9999) 9999 && (Aq9 o.Kind || o.By == 0)
def AB9 (l : List TOp) : Bool := decide ((l.length : Int) ≤ 8) && !(l.any fun o => !Au2 o)
def Br1 (o : TOp) : Bool := if r5 o.Key = false then false else if Ai9 o.Kind = true then AO3 o.Val && (o.By == 0) else if Aq9 o.Kind = true then (o.Val == []) && within o.By (-9999) 9999 else (((o.Kind == 1 || o.Kind == 3) || o.Kind == 6) && o.Val == []) && (o.By == 0)
def Az7 (l : List TOp) : Bool := l.all Br1 && decide ((l.length : Int) ≤ 8)
theorem DF1 (o : TOp) : Au2 o = Br1 o := by
  obtain ⟨K, k, v, b⟩ := o;unfold Au2 Br1 Ai9 Aq9 within
  dsimp only;rw [AA2, Bd8];have hv : AO3 [] = true := by decide
  cases hk : r5 k with
  | false => simp
  | true =>
    simp only [Bool.and_true, Bool.true_eq_false, if_false];by_cases h2 : K = 2
    · subst h2; cases AO3 v <;> simp <;> (by_cases hb : b = 0 <;> simp [hb])
    · by_cases h7 : K = 7
      · subst h7; cases AO3 v <;> simp <;> (by_cases hb : b = 0 <;> simp [hb])
      · have e2 : (K == 2) = false := by simpa using h2
        have e7 : (K == 7) = false := by simpa using h7
        by_cases h4 : K = 4
        · subst h4; cases v <;> simp [hv]
        · by_cases h5 : K = 5
          · subst h5; cases v <;> simp [hv]
          · have e4 : (K == 4) = false := by simpa using h4
            have e5 : (K == 5) = false := by simpa using h5
            rw [e2, e7, e4, e5]
            cases v with
            | nil =>
              by_cases hb : b = 0
              · subst hb
                rw [AW7];simp [hv]; omega
              · have eb : (b == 0) = false := by simpa using hb
                simp [eb]
            | cons c v => simp
theorem Be7 (l : List TOp) : AB9 l = Az7 l := by
  unfold AB9 Az7;rw [List.not_any_eq_all_not, Bool.and_comm];congr 1
  congr 1; funext o; rw [Bool.not_not, DF1]
def l5N (s : Str) : Int × Bool :=
  if (decide (l1R (if s.head? = some 45 then s.drop 1 else s) < 0) || (decide (s.head? = some 45) && (l1R (if s.head? = some 45 then s.drop 1 else s) == 0))) = true then (0, false)
  else if s.head? = some 45 then (-(l1R (s.drop 1)), true) else (l1R s, true)
structure GoodO (o : TOp) : Prop where
  kind : 1 ≤ o.Kind ∧ o.Kind ≤ 7
  key : (32 : UInt8) ∉ o.Key ∧ (59 : UInt8) ∉ o.Key
  val : (32 : UInt8) ∉ o.Val ∧ (59 : UInt8) ∉ o.Val
  noval : Ai9 o.Kind = false → o.Val = []
  noby : Aq9 o.Kind = false → o.By = 0
  by' : -9999 ≤ o.By ∧ o.By ≤ 9999
theorem Ax4 {n : Nat} (h : 1 ≤ n) : Z6 (-(n : Int)) = 45 :: AE3 n := by
  show Lib.itoa _ = _
  unfold Lib.itoa;rw [D3 qz8]; simp
theorem CS0 {n : Int} {c : UInt8} (h : (c.toNat < 48 ∨ 57 < c.toNat) ∧ c ≠ 45) : c ∉ Z6 n := by
  show c ∉ Lib.itoa n
  unfold Lib.itoa;split
  · intro hm
    rcases T0.1 hm with e | hm
    · exact h.2 e
    · exact dec_no h.1 hm
  · exact dec_no h.1
theorem DK2 {n : Nat} (h1 : 1 ≤ n) (h : n ≤ 1000000000000) : Lib.atoiAll (45 :: AE3 n) = .ok (-(n : Int)) := by
  have hp := pu_dec n h
  cases hl : AE3 n with
  | nil => exact absurd hl (Bt7 n)
  | cons c r =>
    rw [hl] at hp;unfold Lib.atoiAll Lib.parseMag;dsimp only;rw [D3 (show (45 : UInt8).toNat = 43 ∨ (45 : UInt8).toNat = 45 from .inr rfl), C5 Y1, hp];dsimp only;rw [C5 Y1, C5 AR9, D3 B8]
theorem DK3 {n lo hi : Int} (hn : -1000000 ≤ n ∧ n ≤ 1000000) (hw : within n lo hi = true) : AU1 (Z6 n) lo hi = (n, true) := by
  by_cases h0 : 0 ≤ n
  · obtain ⟨m, rfl⟩ : ∃ m : Nat, n = (m : Int) := ⟨n.toNat, by omega⟩
    rw [At9, DU2 qz8 hw]
  · obtain ⟨m, rfl⟩ : ∃ m : Nat, n = -(m : Int) := ⟨n.natAbs, by omega⟩
    have e0 := Ax4 (n := m) qz8;have e := DK2 (n := m) qz8 qz8;have e1 : AU0 (Z6 (-(m : Int))) = -(m : Int) := by unfold AU0; rw [e0, e]
    have e2 : AY2 (Z6 (-(m : Int))) = false := by unfold AY2; rw [e0, e]
    unfold AU1;rw [e1, e2, hw, C5 Y1]
theorem CB5 {n : Nat} : (AE3 n).head? ≠ some 45 := fun h => by
  have := CB4 n 45 (List.mem_of_mem_head? h)
  revert this; decide
theorem l5N_itoa {n : Int} (hn : -999999 ≤ n ∧ n ≤ 999999) : l5N (Z6 n) = (n, true) := by
  by_cases h0 : 0 ≤ n
  · obtain ⟨m, rfl⟩ : ∃ m : Nat, n = (m : Int) := ⟨n.toNat, by omega⟩
    have e := DF0 (n := m) qz8;unfold l5N;rw [At9, C5 (c := (AE3 m).head? = some 45) CB5, e, C5 (by simp [CB5]), C5 CB5]
  · obtain ⟨m, rfl⟩ : ∃ m : Nat, n = -(m : Int) := ⟨n.natAbs, by omega⟩
    have e := DF0 (n := m) qz8;have hh : (45 :: AE3 m : Str).head? = some 45 := rfl;have hd : (45 :: AE3 m : Str).drop 1 = AE3 m := rfl;unfold l5N;rw [Ax4 qz8, D3 (c := (45 :: AE3 m : Str).head? = some 45) hh, hd, e, C5 AR9, D3 hh]
theorem CH4 {l : List TOp} (h : AB9 l = true) : ∀ o ∈ l, Au2 o = true := fun o ho => by
  rw [Be7] at h;unfold Az7 at h;rw [D8, Y6] at h;rw [DF1]; exact h.1 o ho
theorem Co4 {d : UInt8} : ∀ (s : Str) (m n : Nat), e6 m (s ++ [d]) = (n : Int) → ∃ v : Nat, e6 m s = (v : Int) ∧ (48 ≤ d.toNat ∧ d.toNat ≤ 57) ∧ n = 10 * v + (d.toNat - 48)
  | [], m, n, h => by
    simp only [AO1, e6] at h;split at h
    · rename_i hd
      refine ⟨m, rfl, ?_, by omega⟩;unfold BE8 at hd; simp at hd; omega
    · exfalso; omega
  | b :: s, m, n, h => by
    show ∃ v : Nat, (if BE8 b = true then e6 (10 * m + (b.toNat - 48)) s else -1) = (v : Int) ∧ _
    have h2 : (if BE8 b = true then e6 (10 * m + (b.toNat - 48)) (s ++ [d]) else -1) = (n : Int) := h;split at h2
    · rename_i hb
      rw [D3 hb];exact Co4 s _ n h2
    · exfalso; omega
theorem rd_ge : ∀ (s : Str) (m n : Nat), e6 m s = (n : Int) → m ≤ n
  | [], m, n, h => by simp only [e6] at h; omega
  | b :: s, m, n, h => by
    simp only [e6] at h;split at h
    · have := rd_ge s _ n h; omega
    · exfalso; omega
theorem u8_dig {d : UInt8} (h : 48 ≤ d.toNat ∧ d.toNat ≤ 57) : UInt8.ofNat (48 + (d.toNat - 48)) = d := by
  apply UInt8.toNat_inj.1
  simp; omega
theorem dec_of : ∀ (k : Nat) (s : Str) (n : Nat), s.length = k + 1 → e6 0 s = (n : Int) → (s.head? ≠ some 48 ∨ k = 0) → AE3 n = s
  | 0, s, n, hl, h, _ => by
    match s, hl with
    | [d], _ =>
      obtain ⟨v, h1, h2, h3⟩ := Co4 [] 0 n h;simp only [e6] at h1;have hv : v = 0 := by omega
      subst hv;rw [AT4 qz8, h3, show 48 + (10 * 0 + (d.toNat - 48)) = 48 + (d.toNat - 48) by omega, u8_dig h2]
  | k + 1, s, n, hl, h, hh => by
    have hne : s ≠ [] := by rintro rfl; simp at hl
    obtain ⟨t, d, rfl⟩ : ∃ t d, s = t ++ [d] := ⟨s.dropLast, s.getLast hne, (List.dropLast_concat_getLast hne).symm⟩;have htl : t.length = k + 1 := by simpa using hl
    obtain ⟨v, h1, h2, h3⟩ := Co4 t 0 n h
    match t, htl with
    | b :: t', _ =>
      have hb : b ≠ 48 := by
        rcases hh with hh | hh
        · intro e; subst e; simp at hh
        · omega
      have ih := dec_of k (b :: t') v AK2 h1 (.inl (by simpa using hb));have hv : 1 ≤ v := by
        simp only [e6] at h1;split at h1
        · rename_i hd
          have h9 := rd_ge t' _ v h1;have h8 : b.toNat ≠ 48 := fun e => hb (UInt8.toNat_inj.1 e);unfold BE8 at hd; simp at hd;omega
        · exfalso; omega
      rw [Ag5 qz8, show n / 10 = v by omega, show n % 10 = d.toNat - 48 by omega, u8_dig h2, ih]
theorem CB6 {s : Str} (h : 0 ≤ l1R s) : s = AE3 (l1R s).toNat := by
  unfold l1R at h ⊢;by_cases hb : BG6 s = true
  · rw [D3 hb] at h; omega
  · rw [C5 hb] at h ⊢
    obtain ⟨n, hn⟩ : ∃ n : Nat, e6 0 s = (n : Int) := ⟨(e6 0 s).toNat, by omega⟩;rw [hn];have hc : within s.length 1 6 = true ∧ ((s.head?.map fun b => b == 48).getD false && decide ((1 : Int) < (s.length : Int))) = false := by
      unfold BG6 at hb;simp only [AB1, not_or, q7, Bool.not_eq_false] at hb;exact ⟨hb.1, by simpa using hb.2⟩
    have hl : 1 ≤ s.length := by have := hc.1; unfold within at this; simp at this; omega
    refine (dec_of (s.length - 1) s n qz8 hn ?_).symm
    cases s with
    | nil => simp at hl
    | cons b r =>
      by_cases hz : r.length = 0
      · exact .inr (by simpa using hz)
      · left
        have h2 := hc.2;simp only [List.head?_cons, AH2, Option.getD_some, Bool.and_eq_false_iff, AH1] at h2;rcases h2 with h2 | h2
        · simpa using h2
        · exfalso; simp at h2; omega
theorem Co5 {s : Str} {n : Int} (h : l5N s = (n, true)) : s = Z6 n ∧ -999999 ≤ n ∧ n ≤ 999999 := by
  have up : ∀ t : Str, 0 ≤ l1R t → l1R t ≤ 999999 := fun t ht => by
    have e := CB6 ht;have hl : t.length ≤ 6 := by
      unfold l1R at ht;split at ht
      · omega
      · rename_i hb
        unfold BG6 within at hb
        simp at hb; omega
    rw [e] at hl;have hnn : l1R t = ((l1R t).toNat : Int) := by omega
    by_cases hb : (l1R t).toNat ≤ 999999
    · omega
    · exfalso
      have : ∀ m : Nat, 10 ^ 6 ≤ m → 7 ≤ (AE3 m).length := by
        intro m;have step : ∀ k m : Nat, 10 ^ k ≤ m → k + 1 ≤ (AE3 m).length := by
          intro k;induction k with
          | zero => intro m _; have := Bt7 m; cases hd : AE3 m with | nil => exact absurd hd this | cons b r => simp
          | succ k ih =>
            intro m hm;have h10 : ¬ m < 10 := by rw [Nat.pow_succ] at hm; have := Nat.one_le_pow k 10 D4; omega
            rw [Ag5 h10, G3];have := ih (m / 10) (by rw [Nat.pow_succ] at hm; omega);simp only [I9, Q8]; omega
        exact step 6 m
      have := this (l1R t).toNat qz8;omega
  unfold l5N at h;by_cases hh : s.head? = some 45
  · rw [D3 (c := s.head? = some 45) hh] at h
    split at h
    · cases h
    · rename_i hc
      injection h with h _
      simp only [AB1, H5, D8, i8, not_or, not_and] at hc;have h0 := hc.2 hh;have h1 : 0 ≤ l1R (s.drop 1) := by omega
      have e := CB6 h1;have hu := up _ h1
      cases s with
      | nil => cases hh
      | cons b r =>
        simp at hh; subst hh;have e2 : r = AE3 (l1R r).toNat := e;have h1' : 0 ≤ l1R r := h1;have h0' : ¬ l1R r = 0 := h0;have hu' : l1R r ≤ 999999 := hu;have hn : n = -(((l1R r).toNat : Nat) : Int) := by rw [← h]; show -(l1R r) = _; omega
        refine ⟨?_, by omega, by omega⟩;rw [hn, Ax4 qz8, ← e2]
  · rw [C5 (c := s.head? = some 45) hh] at h
    split at h
    · cases h
    · rename_i hc
      injection h with h _
      simp only [AB1, H5, not_or] at hc;have h1 : 0 ≤ l1R s := by omega
      have e := CB6 h1;have hu := up _ h1;have hn : n = (((l1R s).toNat : Nat) : Int) := by omega
      refine ⟨?_, by omega, by omega⟩;rw [hn, At9, ← e]
theorem DK4 {s : Str} {n lo hi : Int} (h : AU1 s lo hi = (n, true)) : s = Z6 n ∧ within n lo hi = true := by
  unfold AU1 at h;split at h
  · cases h
  · rename_i hc
    injection h with h _
    simp only [AB1, not_or, q7, Bool.not_eq_false, Ay7, ne_eq, Decidable.not_not] at hc;subst h;exact ⟨hc.2.symm, hc.1.2⟩
theorem DK5 (s : Str) (lo hi : Int) : (AU1 s lo hi).2 = false → AU1 s lo hi = (0, false) := fun h => by
  unfold AU1 at h ⊢;split
  · rfl
  · rename_i hc; rw [C5 hc] at h; cases h
theorem Co6 (s : Str) (h : (l5N s).2 = false) : l5N s = (0, false) := by
  unfold l5N at h ⊢;by_cases hh : s.head? = some 45
  · rw [D3 (c := s.head? = some 45) hh] at h ⊢
    split
    · rfl
    · rename_i hc; rw [C5 hc, D3 hh] at h; cases h
  · rw [C5 (c := s.head? = some 45) hh] at h ⊢
    split
    · rfl
    · rename_i hc; rw [C5 hc, C5 hh] at h; cases h
theorem DU3 (s : Str) : AU1 s (-999999) 999999 = l5N s := by
  cases h1 : (AU1 s (-999999) 999999).2 with
  | true =>
    have e : AU1 s (-999999) 999999 = ((AU1 s (-999999) 999999).1, true) := by rw [← h1]
    obtain ⟨h2, h3⟩ := DK4 e;have hw : -999999 ≤ (AU1 s (-999999) 999999).1 ∧ (AU1 s (-999999) 999999).1 ≤ 999999 := by unfold within at h3; simpa using h3
    have h4 := l5N_itoa hw;rw [← h2] at h4;rw [e, h4]
  | false =>
    cases h2 : (l5N s).2 with
    | true =>
      have e : l5N s = ((l5N s).1, true) := by rw [← h2]
      obtain ⟨h3, h4⟩ := Co5 e;have h5 := DK3 (n := (l5N s).1) (lo := -999999) (hi := 999999) qz8 (by unfold within; simp; omega);rw [← h3] at h5;rw [h5] at h1; cases h1
    | false => rw [DK5 s _ _ h1, Co6 s h2]
def C4 (buf : List A5) (got : List F9) (k : Str) : Str × Bool × Bool :=
  match buf.find? (fun w => w.Key == k) with
  | some w => (w.Val, !w.Gone, true)
  | none => match got.find? (fun g => g.Key == k) with
    | some g => (g.Val, g.There, true)
    | none => ([], false, false)
def y7 (o : TOp) (val : Str) (there : Bool) : Bool :=
  if o.Kind = 4 then (if there = true then !(l5N val).2 || !within ((l5N val).1 + o.By) (-999999) 999999 else false)
  else if o.Kind = 5 then (!there || !(l5N val).2) || decide ((l5N val).1 < o.By)
  else if o.Kind = 6 then there
  else if o.Kind = 7 then !there || (val != o.Val)
  else false
def BP7 (o : TOp) (val : Str) (there : Bool) : Int := (if there = true then (l5N val).1 else 0) + o.By
def U1 (o : TOp) (val : Str) (there : Bool) (buf : List A5) : List A5 :=
  if o.Kind = 2 then ins buf ⟨o.Key, o.Val, false⟩
  else if o.Kind = 3 then ins buf ⟨o.Key, [], true⟩
  else if o.Kind = 4 then ins buf ⟨o.Key, Z6 (BP7 o val there), false⟩
  else buf
def asks (o : TOp) (s : Str × Bool × Bool) : Bool := (!s.2.2 && (o.Kind != 2)) && (o.Kind != 3)
def e8 (got : List F9) : List A5 → List TOp → Int × Str × List A5
  | buf, [] => (3, [], buf)
  | buf, o :: l =>
    if asks o (C4 buf got o.Key) = true then (1, o.Key, [])
    else if y7 o (C4 buf got o.Key).1 (C4 buf got o.Key).2.1 = true then (2, [], [])
    else e8 got (U1 o (C4 buf got o.Key).1 (C4 buf got o.Key).2.1 buf) l
def Q2 (l : List TOp) (got : List F9) : Int × Str × List A5 := e8 got [] l
theorem Be8 {w : A5} {k : Str} : ∀ {l : List A5}, k ∈ T8 (ins l w) ↔ k = w.Key ∨ k ∈ T8 l
  | [] => by unfold ins T8; simp
  | x :: l => by
    have ih := Be8 (w := w) (k := k) (l := l);unfold T8 at ih ⊢;unfold ins;split
    · rw [j4, j4, T0, T0, ih]
      constructor
      · rintro (e | e | e); exact .inr (.inl e); exact .inl e; exact .inr (.inr e)
      · rintro (e | e | e); exact .inr (.inl e); exact .inl e; exact .inr (.inr e)
    · split
      · rename_i h
        rw [j4, j4, T0, T0, h];constructor
        · rintro (e | e); exact .inl e; exact .inr (.inr e)
        · rintro (e | e | e); exact .inl e; exact .inl e; exact .inr e
      · rw [j4, j4, T0, T0]
theorem AF4 {o : TOp} {v : Str} {t : Bool} {buf : List A5} (h : adj T9 buf = true) : adj T9 (U1 o v t buf) = true := by
  unfold U1;split
  · exact BL9 h
  · split
    · exact BL9 h
    · split
      · exact BL9 h
      · exact h
theorem AF5 {o : TOp} {v : Str} {t : Bool} {buf : List A5} : (U1 o v t buf).length ≤ buf.length + 1 := by
  unfold U1;split
  · exact BX8.2
  · split
    · exact BX8.2
    · split
      · exact BX8.2
      · omega
theorem Bn3 {n : Int} (h : -999999 ≤ n ∧ n ≤ 999999) : (Z6 n).length ≤ 7 := by
  by_cases hn : 0 ≤ n
  · rw [Co3 hn]
    have := At8 (k := 6) (n := n.toNat) qz8 D4; omega
  · obtain ⟨m, rfl⟩ : ∃ m : Nat, n = -(m : Int) := ⟨n.natAbs, by omega⟩
    rw [Ax4 qz8];have := At8 (k := 6) (n := m) qz8 D4;simp only [I9]; omega
theorem Ax5 {o : TOp} {v : Str} {t : Bool} (hk : o.Kind = 4) (hb : -10000 ≤ o.By ∧ o.By ≤ 10000) (h : y7 o v t = false) : -999999 ≤ BP7 o v t ∧ BP7 o v t ≤ 999999 := by
  unfold y7 at h;rw [D3 hk] at h;unfold BP7
  cases t with
  | false => rw [C5 D4]; omega
  | true =>
    rw [D3 rfl] at h ⊢;simp only [AE4, AJ5] at h;have := h.2;unfold within at this
    simp only [D8, H5] at this;exact this
theorem AF6 {o : TOp} {v : Str} {t : Bool} {buf : List A5} {n : Nat} (ho : o.size ≤ n) (hn : 19 ≤ n) (hb : -10000 ≤ o.By ∧ o.By ≤ 10000) (hk : o.Key.length ≤ 12 ∨ o.Kind ≠ 4) (hg : y7 o v t = false) (h : ∀ w ∈ buf, w.size ≤ n) : ∀ w ∈ U1 o v t buf, w.size ≤ n := by
  have hos : o.Key.length ≤ n ∧ o.Key.length + o.Val.length ≤ n := by unfold TOp.size at ho; omega
  unfold U1;split
  · intro w hw
    rcases AX6 hw with rfl | hw
    · unfold A5.size; exact hos.2
    · exact h w hw
  · split
    · intro w hw
      rcases AX6 hw with rfl | hw
      · unfold A5.size; simp only [Q8]; omega
      · exact h w hw
    · split
      · rename_i h2 h3 h4
        intro w hw;rcases AX6 hw with rfl | hw
        · have := Bn3 (Ax5 h4 hb hg)
          unfold A5.size;dsimp only;rcases hk with hk | hk
          · omega
          · exact absurd h4 hk
        · exact h w hw
      · exact h
theorem DK6 {o : TOp} {v : Str} {t : Bool} {buf : List A5} {k : Str} (h : k ∈ T8 (U1 o v t buf)) : k = o.Key ∨ k ∈ T8 buf := by
  unfold U1 at h;split at h
  · exact Be8.1 h
  · split at h
    · exact Be8.1 h
    · split at h
      · exact Be8.1 h
      · exact .inr h
structure Ran (l : List TOp) (got : List F9) (b : Nat) (n : Nat) (r : Int × Str × List A5) : Prop where
  adj : adj T9 r.2.2 = true
  len : r.2.2.length ≤ b + l.length
  size : ∀ w ∈ r.2.2, w.size ≤ n
  ed : r.1 = 1 ∨ r.1 = 2 ∨ r.1 = 3
  ask : r.1 = 1 → (∃ o ∈ l, o.Key = r.2.1) ∧ ∀ g ∈ got, g.Key ≠ r.2.1
  klen : r.2.1.length ≤ n
structure Aj0 (n : Nat) (o : TOp) : Prop where
  size : o.size ≤ n
  by' : -10000 ≤ o.By ∧ o.By ≤ 10000
  key : o.Key.length ≤ 12
theorem Co7 {buf : List A5} {got : List F9} {k : Str} (h : (C4 buf got k).2.2 = false) : (∀ w ∈ buf, w.Key ≠ k) ∧ ∀ g ∈ got, g.Key ≠ k := by
  unfold C4 at h;split at h
  · cases h
  · rename_i hb
    split at h
    · cases h
    · rename_i hg
      refine ⟨fun w hw e => ?_, fun g hg2 e => ?_⟩
      · have := List.find?_eq_none.1 hb w hw; simp [e] at this
      · have := List.find?_eq_none.1 hg g hg2; simp [e] at this
theorem Co8 {got : List F9} {n : Nat} (hn : 19 ≤ n) : ∀ {l : List TOp} {buf : List A5}, (∀ o ∈ l, Aj0 n o) → adj T9 buf = true → (∀ w ∈ buf, w.size ≤ n) → Ran l got buf.length n (e8 got buf l)
  | [], buf, _, ha, hs => ⟨ha, N2 _, hs, .inr (.inr rfl), fun h => absurd h (show ¬ (3 : Int) = 1 by decide), E2 _⟩
  | o :: l, buf, ho, ha, hs => by
    have h0 := ho o a8;unfold e8;split
    · rename_i hk
      unfold asks at hk;simp only [D8, q7] at hk;refine ⟨rfl, E2 _, fun w hw => (by cases hw), .inl rfl, fun _ => ⟨⟨o, a8, rfl⟩, (Co7 hk.1.1).2⟩, ?_⟩;have := h0.key; dsimp only; omega
    · split
      · exact ⟨rfl, E2 _, fun w hw => (by cases hw), .inr (.inl rfl), fun h => absurd h D4, E2 _⟩
      · rename_i hk hg
        rw [Bool.not_eq_true] at hg;have ih := Co8 (got := got) hn (l := l) (buf := U1 o (C4 buf got o.Key).1 (C4 buf got o.Key).2.1 buf) (fun x hx => ho x (S7 _ hx)) (AF4 ha) (AF6 h0.size hn h0.by' (.inl h0.key) hg hs);have hl := AF5 (o := o) (v := (C4 buf got o.Key).1) (t := (C4 buf got o.Key).2.1) (buf := buf);refine ⟨ih.adj, ?_, ih.size, ih.ed, fun h => ?_, ih.klen⟩
        · have := ih.len; rw [I9]; omega
        · obtain ⟨⟨x, hx, e⟩, k⟩ := ih.ask h
          exact ⟨⟨x, S7 _ hx, e⟩, k⟩
theorem ran {l : List TOp} {got : List F9} {n : Nat} (hn : 19 ≤ n) (h : ∀ o ∈ l, Aj0 n o) : Ran l got 0 n (Q2 l got) := Co8 hn h rfl fun w hw => absurd hw List.not_mem_nil
theorem AT5 {l : List TOp} (h : AB9 l = true) : ∀ o ∈ l, Aj0 36 o := fun o ho => by
  have hg := CH4 h o ho;unfold Au2 q6 AO9 within at hg
  simp only [D8, H5] at hg;obtain ⟨⟨⟨⟨⟨a1, a2⟩, a3⟩, a4⟩, a5⟩, a6⟩ := hg;exact ⟨by unfold TOp.size; omega, by omega, by omega⟩
def BE9 (n : Int) : Bool := within n 1 60
def BG7 (x : H3) : Bool := q6 x.Key && BE9 x.Txn
def Ar0 (x y : H3) : Bool := ((x.Key == y.Key) && (x.Txn != y.Txn)) && (x.Write || y.Write)
def BH7 (x y : H3) : Bool := Ar0 x y || ((x.Key == y.Key) && (x.Txn == y.Txn))
def AM6 (p : List H3) : List H3 → Bool
  | [] => true
  | x :: r => (BG7 x && !(p.any (BH7 x))) && AM6 (p ++ [x]) r
def AU7 (l : List H3) : Bool := AM6 [] l && decide ((l.length : Int) ≤ 60)
def AV8 : List Int → Int → List Int
  | [], n => [n]
  | x :: l, n => if x < n then x :: AV8 l n else if x = n then x :: l else n :: x :: l
def AG3 (l : List H3) (x : H3) : List Int := (l.filter (Ar0 x)).foldl (fun a y => AV8 a y.Txn) []
def AO5 : List H3 → H3 → List H3
  | [], x => [x]
  | y :: l, x => if (y.Key == x.Key && y.Txn == x.Txn) = true then ⟨y.Key, y.Txn, y.Write || x.Write⟩ :: l else y :: AO5 l x
def Az8 (l : List H3) (fixed : List Int) (x : H3) (w : List Int) : Int × List Int :=
  if w.length = 0 then (1, []) else if (w.any fun t => decide (t < x.Txn) || fixed.any fun y => t == y) = true then (2, []) else (3, w)
theorem Ah7 {l : List H3} {i : Nat} {x : H3} (h : l[i]? = some x) : AM6 (l.take i) (l.drop i) = ((BG7 x && !((l.take i).any (BH7 x))) && AM6 (l.take (i + 1)) (l.drop (i + 1))) := by
  rw [J7 h, AM6, W1, h]; rfl
structure Br2 (n : Nat) (c : Int) (t : B5) : Prop where
  terms : t.Terms.length = n
  ops : AB9 t.Ops = true ∧ ∀ o ∈ t.Ops, o.Key ∈ AD0
  got : t.Got.length ≤ 8 ∧ ∀ g ∈ t.Got, g.size ≤ 64
  span : t.Begin ≤ c ∧ (t.End = -1 ∨ (0 ≤ t.Begin ∧ t.Begin < t.End ∧ t.End ≤ c))
structure LkOk (n : Nat) (c : Int) (l : B9) : Prop where
  node : 0 ≤ l.Node ∧ l.Node < 3 * (n : Int)
  keys : l.Keys.length ≤ 8 ∧ ∀ k ∈ l.Keys, k.length ≤ 12
  got : l.Got.length ≤ l.Keys.length ∧ ∀ g ∈ l.Got, g.size ≤ 64
  span : l.Begin ≤ c ∧ (l.End = -1 ∨ (0 ≤ l.Begin ∧ l.Begin < l.End ∧ l.End ≤ c))
  time : 0 ≤ l.Time ∧ l.Time ≤ 1000000
def AY3 (l : List H3) : Prop := l.length ≤ 60 ∧ ∀ x ∈ l, (1 ≤ x.Txn ∧ x.Txn ≤ 1000000) ∧ x.size ≤ 64
structure WI (w : D1) : Prop where
  n : 1 ≤ w.Groups.length ∧ w.Groups.length ≤ 3
  clocks : w.Clocks.length = 3 * w.Groups.length ∧ ∀ c ∈ w.Clocks, -5 ≤ c.Off ∧ c.Off ≤ 5
  cuts : w.Cuts.length + 1 = w.Groups.length ∧ ∀ c ∈ w.Cuts, c.length ≤ 12
  locks : w.Locks.length = w.Groups.length ∧ ∀ l ∈ w.Locks, AY3 l
  promised : w.Promised.length = w.Groups.length ∧ ∀ p ∈ w.Promised, 0 ≤ p ∧ p ≤ 1000000
  groups : ∀ g ∈ w.Groups, WG g
  txns : w.Txns.length ≤ 6 ∧ ∀ t ∈ w.Txns, Br2 w.Groups.length w.Count t
  looks : w.Looks.length ≤ 4 ∧ ∀ l ∈ w.Looks, LkOk w.Groups.length w.Count l
  now : 0 ≤ w.Now ∧ w.Now ≤ 100000
  count : 0 ≤ w.Count ∧ w.Count ≤ 1000000
structure WQ (w : D1) : Prop where
  txns : ∀ t ∈ w.Txns, t.Begin < w.Count
  looks : ∀ l ∈ w.Looks, l.Begin < w.Count
structure WS (w v : D1) : Prop where
  cuts : v.Cuts = w.Cuts
  groups : v.Groups.length = w.Groups.length
  txns : v.Txns.length = w.Txns.length
  looks : v.Looks.length = w.Looks.length
  now : v.Now = w.Now
  count : v.Count = w.Count
structure WF (w v : D1) : Prop where
  wi : WI v
  ws : WS w v
  lk : v.Looks = w.Looks
  gr : v.Groups = w.Groups
theorem WF.trans {u v w : D1} (h : WF u v) (k : WF v w) : WF u w := ⟨k.wi, ⟨k.ws.cuts.trans h.ws.cuts, k.ws.groups.trans h.ws.groups, k.ws.txns.trans h.ws.txns, k.ws.looks.trans h.ws.looks, k.ws.now.trans h.ws.now, k.ws.count.trans h.ws.count⟩, k.lk.trans h.lk, k.gr.trans h.gr⟩
theorem WF.refl {w : D1} (h : WI w) : WF w w := ⟨h, ⟨rfl, rfl, rfl, rfl, rfl, rfl⟩, rfl, rfl⟩
theorem WS.refl (w : D1) : WS w w := ⟨rfl, rfl, rfl, rfl, rfl, rfl⟩
theorem WS.trans {u v w : D1} (h : WS u v) (k : WS v w) : WS u w := ⟨k.cuts.trans h.cuts, k.groups.trans h.groups, k.txns.trans h.txns, k.looks.trans h.looks, k.now.trans h.now, k.count.trans h.count⟩
def m3 (w : D1) (i : Nat) (g : D0) : D1 := { w with Groups := w.Groups.set i g }
def An2 (w : D1) (i : Nat) (l : List H3) : D1 := { w with Locks := w.Locks.set i l }
def Ak1 (w : D1) (i : Nat) (p : Int) : D1 := { w with Promised := w.Promised.set i p }
def AO0 (w : D1) (i : Nat) (t : B5) : D1 := { w with Txns := w.Txns.set i t }
def Aa3 (w : D1) (i : Nat) (t : B9) : D1 := { w with Looks := w.Looks.set i t }
def CO2 (w : D1) (i : Nat) (c : U4) : D1 := { w with Clocks := w.Clocks.set i c }
theorem AS2 {α : Type} {l : List α} {i : Nat} {x : α} {P : α → Prop} (h : ∀ y ∈ l, P y) (hx : P x) : ∀ y ∈ l.set i x, P y := fun y hy => by
  rcases List.mem_or_eq_of_mem_set hy with hy | rfl
  · exact h y hy
  · exact hx
theorem AF7 {w : D1} (h : WI w) {i : Nat} {g : D0} (hg : WG g) : WI (m3 w i g) ∧ WS w (m3 w i g) := by
  have hl : (w.Groups.set i g).length = w.Groups.length := Z1 ..;refine ⟨⟨?_, ?_, ?_, ?_, ?_, AS2 h.groups hg, ?_, ?_, h.now, h.count⟩, ⟨rfl, hl, rfl, rfl, rfl, rfl⟩⟩ <;> unfold m3 <;> dsimp only <;> rw [hl]
  · exact h.n
  · exact h.clocks
  · exact h.cuts
  · exact h.locks
  · exact h.promised
  · exact h.txns
  · exact h.looks
theorem Co9 {w : D1} (h : WI w) {i : Nat} {l : List H3} (hg : AY3 l) : WI (An2 w i l) ∧ WS w (An2 w i l) :=
  ⟨⟨h.n, h.clocks, h.cuts, ⟨(Z1 ..).trans h.locks.1, AS2 h.locks.2 hg⟩, h.promised, h.groups, h.txns, h.looks, h.now, h.count⟩, ⟨rfl, rfl, rfl, rfl, rfl, rfl⟩⟩
theorem DF2 {w : D1} (h : WI w) {i : Nat} {p : Int} (hp : 0 ≤ p ∧ p ≤ 1000000) : WI (Ak1 w i p) ∧ WS w (Ak1 w i p) :=
  ⟨⟨h.n, h.clocks, h.cuts, h.locks, ⟨(Z1 ..).trans h.promised.1, AS2 h.promised.2 hp⟩, h.groups, h.txns, h.looks, h.now, h.count⟩, ⟨rfl, rfl, rfl, rfl, rfl, rfl⟩⟩
theorem BF8 {w : D1} (h : WI w) {i : Nat} {t : B5} (ht : Br2 w.Groups.length w.Count t) : WI (AO0 w i t) ∧ WS w (AO0 w i t) :=
  ⟨⟨h.n, h.clocks, h.cuts, h.locks, h.promised, h.groups, ⟨by show (w.Txns.set i t).length ≤ 6; rw [Z1]; exact h.txns.1, AS2 h.txns.2 ht⟩, h.looks, h.now, h.count⟩, ⟨rfl, rfl, Z1 .., rfl, rfl, rfl⟩⟩
theorem CS1 {w : D1} (h : WI w) {i : Nat} {t : B9} (ht : LkOk w.Groups.length w.Count t) : WI (Aa3 w i t) ∧ WS w (Aa3 w i t) :=
  ⟨⟨h.n, h.clocks, h.cuts, h.locks, h.promised, h.groups, h.txns, ⟨by show (w.Looks.set i t).length ≤ 4; rw [Z1]; exact h.looks.1, AS2 h.looks.2 ht⟩, h.now, h.count⟩, ⟨rfl, rfl, rfl, Z1 .., rfl, rfl⟩⟩
theorem wi_clock {w : D1} (h : WI w) {i : Nat} {c : U4} (hc : -5 ≤ c.Off ∧ c.Off ≤ 5) : WI (CO2 w i c) ∧ WS w (CO2 w i c) :=
  ⟨⟨h.n, ⟨(Z1 ..).trans h.clocks.1, AS2 h.clocks.2 hc⟩, h.cuts, h.locks, h.promised, h.groups, h.txns, h.looks, h.now, h.count⟩, ⟨rfl, rfl, rfl, rfl, rfl, rfl⟩⟩
theorem wi_now {w : D1} (h : WI w) {n : Int} (hn : 0 ≤ n ∧ n ≤ 100000) : WI { w with Now := n } := ⟨h.n, h.clocks, h.cuts, h.locks, h.promised, h.groups, h.txns, h.looks, hn, h.count⟩
theorem Cp0 {w : D1} (h : WI w) (hc : w.Count < 1000000) : WI { w with Count := w.Count + 1 } ∧ WQ { w with Count := w.Count + 1 } := by
  have h0 := h.count;refine ⟨⟨h.n, h.clocks, h.cuts, h.locks, h.promised, h.groups, ⟨h.txns.1, fun t ht => ?_⟩, ⟨h.looks.1, fun t ht => ?_⟩, h.now, by dsimp only; omega⟩, ⟨fun t ht => ?_, fun t ht => ?_⟩⟩
  · have := h.txns.2 t ht; exact ⟨this.terms, this.ops, this.got, by dsimp only; have := this.span; omega⟩
  · have := h.looks.2 t ht; exact ⟨this.node, this.keys, this.got, by dsimp only; have := this.span; omega, this.time⟩
  · have := (h.txns.2 t ht).span; dsimp only; omega
  · have := (h.looks.2 t ht).span; dsimp only; omega
def AK8 (l : List K4) : List N9 := l.map K4.Rec
def Ba5 (l : List K4) (n : Nat) : E9 := Y3 U9 (AK8 (l.take n))
def AY4 (g : D0) : F7 := g.Reps.foldl (fun b r => if b.Sure < r.Sure then r else b) (P0 g 0)
def AV9 (g : D0) : E9 := Ba5 (AY4 g).Log (AY4 g).Sure.toNat
def AW0 (g : D0) : Bool := decide (0 ≤ g.Lead) && ((P0 g g.Lead).Log.take (P0 g g.Lead).Sure.toNat).any fun e => e.Term == g.Term
def m9 (g : D0) : E9 := Ba5 (P0 g g.Lead).Log (P0 g g.Lead).Sure.toNat
def i0 (g : D0) : E9 := Ba5 (P0 g g.Lead).Log (P0 g g.Lead).Log.length
theorem DU4 {r : F7} {t : Int} (h : GR r t) (n : Nat) : (∀ x ∈ AK8 (r.Log.take n), T2 x = true) ∧ (AK8 (r.Log.take n)).length ≤ 60 := by
  refine ⟨fun x hx => ?_, ?_⟩
  · obtain ⟨e, he, rfl⟩ := m1.1 hx
    exact (h.ents e (AW6 he)).2.2
  · unfold AK8
    rw [A7];exact L4 (List.length_take_le' _ _) h.len
theorem Ax6 {r : F7} {t : Int} (h : GR r t) (n : Nat) : GS (Ba5 r.Log n) := CR8 BY0 (DU4 h n).1
theorem Cp1 : ∀ {l : List F7} {b : F7}, l.foldl (fun b r => if b.Sure < r.Sure then r else b) b = b ∨ l.foldl (fun b r => if b.Sure < r.Sure then r else b) b ∈ l
  | [], b => .inl rfl
  | r :: l, b => by
    rw [List.foldl_cons];rcases Cp1 (l := l) (b := if b.Sure < r.Sure then r else b) with h | h
    · rw [h]
      split
      · exact .inr a8
      · exact .inl rfl
    · exact .inr (S7 _ h)
theorem Bt8 {g : D0} (h : GG g) : AY4 g ∈ g.Reps := by
  rcases Cp1 (l := g.Reps) (b := P0 g 0) with e | e
  · unfold AY4; rw [e]
    exact AK6 ⟨Int.le_refl 0, by rcases h.many with k | k <;> omega⟩
  · exact e
theorem Av3 {g : D0} (h : GG g) : GS (AV9 g) := Ax6 (h.reps _ (Bt8 h)) _
theorem BM0 {g : D0} (h : GG g) (hl : 0 ≤ g.Lead) : 0 ≤ g.Lead ∧ g.Lead < g.Reps.length := by
  rcases h.lead with e | ⟨a, b, _⟩
  · omega
  · exact ⟨a, b⟩
theorem Ar5 {g : D0} (h : GG g) (hl : 0 ≤ g.Lead) : GS (m9 g) := Ax6 (h.reps _ (AK6 (BM0 h hl))) _
theorem AS3 {g : D0} (h : GG g) (hl : 0 ≤ g.Lead) : GS (i0 g) := Ax6 (h.reps _ (AK6 (BM0 h hl))) _
theorem AP6 {g : D0} (h : AW0 g = true) : 0 ≤ g.Lead := by
  unfold AW0 at h;rw [D8, H5] at h;exact h.1
structure StK (s : E9) : Prop where
  cells : ∀ c ∈ s.Cells, c.Key ∈ AD0
  held : ∀ h ∈ s.Held, ∀ w ∈ h.Writes, w.Key ∈ AD0
theorem stk_zero : StK U9 := ⟨fun c hc => (by cases hc), fun h hh => (by cases hh)⟩
theorem CZ8 {k : Str} {v : Y8} : ∀ {l : List B6} {c : B6}, c ∈ AJ0 l k v → c.Key = k ∨ ∃ d ∈ l, d.Key = c.Key
  | [], c, h => by
    unfold AJ0 at h;rw [X9.1 h]; exact .inl rfl
  | d :: l, c, h => by
    unfold AJ0 at h;split at h
    · rcases T0.1 h with rfl | h
      · exact .inr ⟨c, a8, rfl⟩
      · rcases CZ8 h with e | ⟨x, hx, e⟩
        · exact .inl e
        · exact .inr ⟨x, S7 _ hx, e⟩
    · split at h
      · rcases T0.1 h with rfl | h
        · exact .inl rfl
        · exact .inr ⟨c, S7 _ h, rfl⟩
      · rcases T0.1 h with rfl | h
        · exact .inl rfl
        · exact .inr ⟨c, h, rfl⟩
theorem CZ9 {t : Int} : ∀ {w : List A5} {l q : List B6}, j3 l w t = some q → (∀ c ∈ l, c.Key ∈ AD0) → (∀ x ∈ w, x.Key ∈ AD0) → ∀ c ∈ q, c.Key ∈ AD0
  | [], l, q, e, hl, _ => by simp [j3] at e; subst e; exact hl
  | x :: w, l, q, e, hl, hw => by
    unfold j3 at e;split at e
    · cases e
    · refine CZ9 e (fun c hc => ?_) fun y hy => hw y (S7 _ hy)
      unfold AF2 at hc;rcases CZ8 hc with h | ⟨d, hd, h⟩
      · rw [h]; exact hw x a8
      · rw [← h]; exact hl d hd
theorem DU5 {s : E9} (g : StK s) {r : N9} (hr : Aq8 r) (h : (W6 s r).2 = true) : StK (W6 s r).1 := by
  have hless : ∀ n, ∀ h ∈ AC1 s.Held n, ∀ w ∈ h.Writes, w.Key ∈ AD0 := fun n h hh => g.held h (Af0.1 hh).1;unfold W6 at h ⊢;by_cases h4 : r.Kind = 4
  · rw [D3 h4]; exact ⟨g.cells, g.held⟩
  · rw [C5 h4] at h ⊢
    by_cases hT : AT8 s.Told r.Txn = true
    · rw [D3 hT] at h; cases h
    · rw [C5 hT] at h ⊢
      by_cases h1 : r.Kind = 1
      · rw [D3 h1]
        refine ⟨g.cells, fun x hx => ?_⟩;rcases Al7.1 hx with rfl | hx
        · exact hr
        · exact g.held x hx
      · rw [C5 h1] at h ⊢
        by_cases hy : r.Yes = true
        · rw [D3 hy] at h ⊢
          cases hf : AH7 s.Held r.Txn with
          | none => rw [hf] at h; cases h
          | some k =>
            rw [hf] at h;dsimp only at h ⊢;by_cases hlt : r.Time < k.Time
            · rw [D3 hlt] at h; cases h
            · rw [C5 hlt] at h ⊢
              by_cases hp : (AK3 s.Cells k.Writes r.Time).2 = true
              · rw [D3 hp]
                obtain ⟨p1, _⟩ := Bt6 hp;exact ⟨CZ9 p1 g.cells (g.held k (Ao1 hf).1), hless _⟩
              · rw [C5 hp] at h; cases h
        · rw [C5 hy]; exact ⟨g.cells, hless _⟩
theorem stk_step {s : E9} (g : StK s) {r : N9} (hr : Aq8 r) : StK (AJ9 s r) := by
  unfold AJ9;split
  · exact DU5 g hr ‹_›
  · exact g
theorem Cp2 : ∀ {l : List N9} {s : E9}, StK s → (∀ r ∈ l, Aq8 r) → StK (Y3 s l)
  | [], s, g, _ => g
  | r :: l, s, g, h => by
    show StK (Y3 (AJ9 s r) l)
    exact Cp2 (stk_step g (h r a8)) fun x hx => h x (S7 _ hx)
theorem DK7 {l : List K4} (h : ∀ e ∈ l, Aq8 e.Rec) (n : Nat) : StK (Ba5 l n) := Cp2 stk_zero fun r hr => by
  obtain ⟨e, he, rfl⟩ := m1.1 hr;exact h e (AW6 he)
theorem DU6 {g : D0} (h : GG g) (k : AR7 Aq8 g) : StK (AV9 g) := DK7 (k _ (Bt8 h)) _
def lookW (l : List A5) (k : Str) : Option A5 := l.find? fun w => w.Key == k
theorem Be9 {l : List A5} {k : Str} {w : A5} (h : lookW l k = some w) : w ∈ l ∧ w.Key = k := by
  unfold lookW at h;exact ⟨Ah2 h, by simpa using List.find?_some h⟩
theorem DK8 {l : List A5} {k : Str} (h : lookW l k = none) : ∀ w ∈ l, w.Key ≠ k := fun w hw e => by
  have := List.find?_eq_none.1 h w hw;simp [e] at this
theorem DF3 {x y : A5} : ∀ {l : List A5}, l.Pairwise (fun a b => T9 a b = true) → x ∈ l → y ∈ l → x.Key = y.Key → x = y
  | [], _, h, _, _ => by cases h
  | z :: l, hp, hx, hy, e => by
    obtain ⟨h1, h2⟩ := AH3.1 hp;rcases T0.1 hx with ex | hx'
    · rcases T0.1 hy with ey | hy'
      · rw [ex, ey]
      · exfalso; have := h1 y hy'; unfold T9 at this; rw [← ex, e, M5] at this; cases this
    · rcases T0.1 hy with ey | hy'
      · exfalso; have := h1 x hx'; unfold T9 at this; rw [← ey, e, M5] at this; cases this
      · exact DF3 h2 hx' hy' e
theorem DU7 {l : List A5} (ha : adj T9 l = true) {w : A5} (hw : w ∈ l) : lookW l w.Key = some w := by
  cases h : lookW l w.Key with
  | none => exact absurd rfl (DK8 h w hw)
  | some x =>
    obtain ⟨hx, hk⟩ := Be9 h;have hp := (Ag3 AI6).1 ha;by_cases e : x = w
    · rw [e]
    · exact absurd (DF3 hp hx hw hk) e
def Br3 (rows ws : List A5) : List A5 := CN9 (BW9 rows ws)
theorem putD_adj {rows ws : List A5} (h : adj T9 rows = true) : adj T9 (Br3 rows ws) = true := DI5 _ (Cn2 h)
def Ac3 (g : F9) : Bool := q6 g.Key && AE2 g.Val (!g.There)
def AW1 (p : List F9) : List F9 → Bool
  | [] => true
  | g :: l => (Ac3 g && !(p.any fun h => h.Key == g.Key)) && AW1 (p ++ [g]) l
def AC4 (l : List F9) : Bool := AW1 [] l && decide ((l.length : Int) ≤ 8)
def Q7 (d : E0) : Bool := (((((BE9 d.Txn && within d.Begin 0 1000000) && (d.End == -1 || within d.End (d.Begin + 1) 1000000)) && (!d.Look || (d.Yes && ((d.Writes.length : Int) == 0)))) && j6 d.Time) && AC4 d.Got) && AH6 d.Writes
def AG4 (h : List E0) : Bool := decide ((h.length : Int) ≤ 10) && h.all Q7
def ahead (a b : E0) : Bool := (a.End != -1) && decide (a.End < b.Begin)
def zDeed : E0 := ⟨0, 0, 0, false, false, 0, [], []⟩
def deedAt (h : List E0) (n : Int) : E0 := (h[n.toNat]?).getD zDeed
def BX1 (rows : List A5) (k : Str) : F9 := match lookW rows k with
  | some w => ⟨k, w.Val, true⟩
  | none => ⟨k, [], false⟩
def yesIdx (h : List E0) : List Int := (List.range h.length).filterMap fun i : Nat => if (deedAt h (Int.ofNat i)).Yes = true then some (Int.ofNat i) else none
theorem BV3 {d : E0} (h : Q7 d = true) : AM4 d.Writes = true ∧ (∀ w ∈ d.Writes, AJ8 w = true) ∧ adj T9 d.Writes = true := by
  unfold Q7 at h;simp only [D8] at h;have := h.2;rw [AX5] at this;refine ⟨this, ?_⟩;unfold AM4 at this;simp only [D8, Y6] at this;exact ⟨this.1.1, this.1.2⟩
def HistK (h : List E0) : Prop := ∀ d ∈ h, ∀ w ∈ d.Writes, w.Key ∈ AD0
theorem CB7 {l : List A5} (h : adj T9 l = true) (hk : ∀ w ∈ l, w.Key ∈ AD0) : l.length ≤ 8 := by
  have h1 : (l.map A5.Key).Nodup := by
    have hp := (Ag3 AI6).1 h;rw [List.nodup_iff_pairwise_ne, List.pairwise_map];exact hp.imp fun {a b} hab e => by unfold T9 at hab; rw [e, M5] at hab; cases hab
  have := CB2 h1 (b := AD0) fun x hx => by
    obtain ⟨w, hw, rfl⟩ := m1.1 hx;exact hk w hw
  rw [A7] at this;exact this
def leS (c k : Str) : Bool := Op.bytesLess c k || c == k
def AC7 (l : List Str) (k : Str) : Nat := (l.takeWhile fun c => leS c k).length
def CE2 (l : List Str) : Bool := decide ((l.length : Int) < 4) && o8 l
def Ae3 (l : List Str) : Bool := (l.all r5 && adj Op.bytesLess l) && decide ((l.length : Int) < 4)
theorem Cy1 (l : List Str) : CE2 l = Ae3 l := by
  unfold CE2 Ae3 o8;rw [Bool.and_comm];congr 1; congr 1
  induction l with
  | nil => rfl
  | cons x l ih => rw [AC0, AC0, ih, AA2]
theorem CB8 (l : List Str) (k : Str) : AC7 l k ≤ l.length := (List.takeWhile_sublist _).length_le
theorem CB9 {k : Str} : ∀ {l : List Str} {i : Nat} {c : Str}, l[i]? = some c → (i < AC7 l k → leS c k = true) ∧ (i = AC7 l k → leS c k = false)
  | [], i, c, h => by simp at h
  | d :: l, i, c, h => by
    unfold AC7
    cases hd : leS d k with
    | true =>
      rw [List.takeWhile_cons_of_pos (p := fun c => leS c k) hd, I9]
      cases i with
      | zero => simp at h; subst h; exact ⟨fun _ => hd, fun e => by omega⟩
      | succ i =>
        have ih := CB9 (k := k) (l := l) (i := i) (c := c) Aj4;unfold AC7 at ih;exact ⟨fun hl => ih.1 qz8, fun e => ih.2 qz8⟩
    | false =>
      rw [List.takeWhile_cons_of_neg (p := fun c => leS c k) (by rw [hd]; decide)];refine ⟨fun hl => by simp at hl, fun e => ?_⟩;simp at e; subst e;simp at h; subst h; exact hd
def BC3 (l : List Str) : Bool := within (l.length : Int) 1 8 && o8 l
def AM7 (w : D1) (t : B5) : Bool := ((((((AB9 t.Ops && decide (0 < (t.Ops.length : Int))) && AC4 t.Got) && ((t.Terms.length : Int) == (w.Groups.length : Int))) && (t.Terms.all fun n => within n 0 200)) && within t.Begin (-1) w.Count) && within t.End (-1) w.Count) && j6 t.Time
def AU8 (l : List F9) (ks : List Str) : Bool := (List.range l.length).all fun i => match l[i]?, ks[i]? with
  | some g, some k => g.Key == k
  | _, _ => false
def w8 (w : D1) (l : B9) : Bool := (((((((within l.Node 0 ((w.Clocks.length : Int) - 1) && BC3 l.Keys) && decide ((l.Got.length : Int) ≤ (l.Keys.length : Int))) && AC4 l.Got) && AU8 l.Got l.Keys) && j6 l.Time) && within l.Begin (-1) w.Count) && within l.End (-1) w.Count)
def AN9 (w : D1) : Bool := ((((decide ((w.Cuts.length : Int) ≤ 2) && Ae3 w.Cuts) && ((w.Groups.length : Int) == (w.Cuts.length : Int) + 1)) && ((w.Locks.length : Int) == (w.Cuts.length : Int) + 1)) && ((w.Promised.length : Int) == (w.Cuts.length : Int) + 1)) && ((w.Clocks.length : Int) == 3 * ((w.Cuts.length : Int) + 1))
def o9 (w : D1) : Bool := ((((((((AN9 w && (w.Groups.all fun g => j5 g && ((g.Reps.length : Int) == 3))) && w.Locks.all AU7) && w.Promised.all j6) && j6 w.Now) && within w.Count 0 1000000) && (decide ((w.Txns.length : Int) ≤ 6) && decide ((w.Looks.length : Int) ≤ 4))) && (w.Clocks.all fun c => within c.Off (-5) 5)) && w.Txns.all (AM7 w)) && w.Looks.all (w8 w)
structure WD9 (w : D1) : Prop where
  size : w.size ≤ 1000000
  keys : ∀ g ∈ w.Groups, AR7 Aq8 g
  ops : ∀ t ∈ w.Txns, ∀ o ∈ t.Ops, o.Key ∈ AD0
  ends : ∀ t ∈ w.Txns, t.End = -1 ∨ t.Begin < t.End
  lends : ∀ l ∈ w.Looks, l.End = -1 ∨ l.Begin < l.End
structure GW (w : D1) : Prop where
  cuts : w.Cuts.length ≤ 2 ∧ Ae3 w.Cuts = true
  groups : w.Groups.length = w.Cuts.length + 1 ∧ ∀ g ∈ w.Groups, GG g ∧ g.Reps.length = 3
  locks : w.Locks.length = w.Cuts.length + 1
  promised : w.Promised.length = w.Cuts.length + 1
  clocks : w.Clocks.length = 3 * (w.Cuts.length + 1) ∧ ∀ c ∈ w.Clocks, -5 ≤ c.Off ∧ c.Off ≤ 5
  now : 0 ≤ w.Now ∧ w.Now ≤ 100000
  count : 0 ≤ w.Count ∧ w.Count ≤ 1000000
  txns : w.Txns.length ≤ 6 ∧ ∀ t ∈ w.Txns, AM7 w t = true
  looks : w.Looks.length ≤ 4 ∧ ∀ l ∈ w.Looks, w8 w l = true
theorem BN7 {w : D1} (h : o9 w = true) : GW w := by
  unfold o9 AN9 within j6 within at h
  simp only [D8, H5, Y6, i8, AN7] at h;obtain ⟨⟨⟨⟨⟨⟨⟨⟨⟨⟨⟨⟨⟨⟨h1, h2⟩, h3⟩, h4⟩, h5⟩, h6⟩, h7⟩, h8⟩, h9⟩, h10⟩, h11⟩, h12⟩, h13⟩, h14⟩, h15⟩ := h;exact ⟨⟨by omega, h2⟩, ⟨by omega, fun g hg => ⟨(h7 g hg).1, by have := (h7 g hg).2; omega⟩⟩, by omega, by omega, ⟨by omega, h13⟩, h10, h11, ⟨by omega, h14⟩, ⟨by omega, h15⟩⟩
def goneW (k : Str) : A5 := ⟨k, [], true⟩
def GoodSs (ss : List E9) : Prop := ∀ s ∈ ss, AA6 s.Cells = true
theorem DU8 {k : Str} (h : q6 k = true) : AJ8 (goneW k) = true := by
  unfold AJ8 AY0 goneW;rw [← AA2];dsimp only;rw [h]; rfl
def W8 (w : D1) : List E9 := w.Groups.map AV9
theorem itoa_val {n : Int} (h : -999999 ≤ n ∧ n ≤ 999999) : AO9 (Z6 n) = true := by
  unfold AO9;rw [BX7, D8, H5];refine ⟨by have := Bn3 h; omega, ?_⟩;unfold AP0;refine Y6.2 fun c hc => ?_;by_cases hd : (c.toNat < 48 ∨ 57 < c.toNat) ∧ c ≠ 45
  · exact absurd hc (CS0 hd)
  · rw [AB1]
    by_cases h45 : c = 45
    · right; subst h45; decide
    · left
      have h1 : 48 ≤ c.toNat ∧ c.toNat ≤ 57 := by
        by_cases h1 : c.toNat < 48 ∨ 57 < c.toNat
        · exact absurd ⟨h1, h45⟩ hd
        · omega
      unfold Ai0;simp; omega
theorem DK9 {o : TOp} {v : Str} {t : Bool} {buf : List A5} (ho : Au2 o = true) (hg : y7 o v t = false) (h : ∀ w ∈ buf, AJ8 w = true) : ∀ w ∈ U1 o v t buf, AJ8 w = true := by
  have ho2 := ho;unfold Au2 at ho2;simp only [D8] at ho2;obtain ⟨⟨⟨⟨⟨a1, a2⟩, a3⟩, a4⟩, a5⟩, a6⟩ := ho2;have hby : -10000 ≤ o.By ∧ o.By ≤ 10000 := by unfold within at a5; simp at a5; omega
  have hst : ∀ s : Str, AO9 s = true → AJ8 ⟨o.Key, s, false⟩ = true := fun s hs => by
    unfold AJ8 AY0;dsimp only;rw [← AA2, a2, ← Bd8, hs]; rfl
  unfold U1;split
  · intro w hw
    rcases AX6 hw with rfl | hw
    · exact hst _ a3
    · exact h w hw
  · split
    · intro w hw
      rcases AX6 hw with rfl | hw
      · exact DU8 a2
      · exact h w hw
    · split
      · rename_i h2 h3 h4
        intro w hw;rcases AX6 hw with rfl | hw
        · exact hst _ (itoa_val (Ax5 h4 hby hg))
        · exact h w hw
      · exact h
theorem Bi4 {got : List F9} : ∀ {l : List TOp} {buf : List A5}, (∀ o ∈ l, Au2 o = true) → (∀ w ∈ buf, AJ8 w = true) → ∀ w ∈ (e8 got buf l).2.2, AJ8 w = true
  | [], buf, _, hb => hb
  | o :: l, buf, ho, hb => by
    unfold e8;split
    · intro w hw; cases hw
    · split
      · intro w hw; cases hw
      · rename_i hk hg
        rw [Bool.not_eq_true] at hg;exact Bi4 (fun x hx => ho x (S7 _ hx)) (DK9 (ho o a8) hg hb)
theorem DU9 {l : List TOp} {got : List F9} (h : AB9 l = true) : AH6 (Q2 l got).2.2 = true := by
  have h1 := ran (got := got) (n := 36) D4 (AT5 h);have h2 : l.length ≤ 8 := by have h9 := h; unfold AB9 at h9; rw [D8, H5] at h9; have := h9.1; omega
  have h3 : ∀ w ∈ (Q2 l got).2.2, AJ8 w = true := Bi4 (got := got) (buf := []) (CH4 h) fun w hw => by cases hw
  have h4 := h1.len;rw [AX5];unfold AM4;rw [h1.adj, Y6.2 h3, q8 qz8]; rfl
def y5 (ss : List E9) (n : Int) : List G7 := ss.filterMap fun s => Ac2 s.Told n
def AN4 (l : List G7) : Option G7 := match l with
  | [] => none
  | x :: r => if (x.Yes && (x :: r).all fun y => decide (y = x)) = true then some x else none
def BT1 (ss : List E9) (k : Nat) (t : B5) : E0 := match AN4 (y5 ss ((k : Int) + 1)) with
  | some x => ⟨(k : Int) + 1, t.Begin, t.End, true, false, x.Time, t.Got, (Q2 t.Ops t.Got).2.2⟩
  | none => ⟨(k : Int) + 1, t.Begin, t.End, false, false, 0, [], []⟩
def BT2 (k : Nat) (l : B9) : E0 := ⟨50 + (k : Int), l.Begin, l.End, true, true, l.Time, l.Got, []⟩
def BK7 (ss : List E9) (l : List B5) (k : Nat) : Option E0 := match l[k]? with
  | some t => if t.Begin < 0 then none else some (BT1 ss k t)
  | none => none
def BK8 (l : List B9) (k : Nat) : Option E0 := match l[k]? with
  | some x => if 0 ≤ x.Begin ∧ x.Got.length = x.Keys.length then some (BT2 k x) else none
  | none => none
def r8 (ss : List E9) (l : List B5) (n : Nat) : List E0 := (List.range n).filterMap (BK7 ss l)
def AH8 (l : List B9) (n : Nat) : List E0 := (List.range n).filterMap (BK8 l)
def An3 (w : D1) : List E0 := r8 (W8 w) w.Txns w.Txns.length ++ AH8 w.Looks w.Looks.length
theorem Bw5 {ss : List E9} {l : List B5} {i : Nat} : r8 ss l (i + 1) = r8 ss l i ++ (BK7 ss l i).toList := by
  unfold r8;rw [List.range_succ, List.filterMap_append];congr 1
theorem Bw6 {l : List B9} {i : Nat} : AH8 l (i + 1) = AH8 l i ++ (BK8 l i).toList := by
  unfold AH8;rw [List.range_succ, List.filterMap_append];congr 1
theorem Ax7 {ss : List E9} {l : List B5} {n : Nat} : (r8 ss l n).length ≤ n := by
  unfold r8;exact L4 (List.length_filterMap_le _ _) (by rw [List.length_range]; exact N2 _)
theorem Bf0 {l : List B9} {n : Nat} : (AH8 l n).length ≤ n := by
  unfold AH8;exact L4 (List.length_filterMap_le _ _) (by rw [List.length_range]; exact N2 _)
structure EndsOk (w : D1) : Prop where
  txns : ∀ t ∈ w.Txns, t.End = -1 ∨ t.Begin < t.End
  looks : ∀ l ∈ w.Looks, l.End = -1 ∨ l.Begin < l.End
theorem Cp3 {l : List G7} {x : G7} (h : AN4 l = some x) : x ∈ l ∧ x.Yes = true := by
  unfold AN4 at h;split at h
  · cases h
  · split at h
    · rename_i y r hc
      injection h with h; subst h
      rw [D8] at hc;exact ⟨a8, hc.1⟩
    · cases h
theorem DV0 {l : List G7} {n : Int} {t : G7} (h : Ac2 l n = some t) : t ∈ l := Ah2 h
theorem DV1 {s : E9} (g : GS s) {t : G7} (ht : t ∈ s.Told) (hy : t.Yes = true) : j6 t.Time = true := by
  have h1 := (g.told t ht).2.1;unfold BE7 at h1;rw [D3 hy] at h1;unfold within at h1
  have h2 := g.floor;simp at h1;unfold j6 within
  simp; omega
theorem deedT_ok {w : D1} (hs : ∀ s ∈ W8 w, GS s) (hc : w.Count ≤ 1000000) {k : Nat} {t : B5} (hk : k < 6) (ht : AM7 w t = true) (hb : 0 ≤ t.Begin) (he : t.End = -1 ∨ t.Begin < t.End) : Q7 (BT1 (W8 w) k t) = true := by
  unfold AM7 within at ht
  simp only [D8, H5, i8] at ht;obtain ⟨⟨⟨⟨⟨⟨⟨t1, t2⟩, t3⟩, t4⟩, t5⟩, t6⟩, t7⟩, t8⟩ := ht;have hin : (BE9 ((k : Int) + 1) && within t.Begin 0 1000000) = true ∧ (t.End == -1 || within t.End (t.Begin + 1) 1000000) = true := by
    unfold BE9 within
    simp only [D8, AB1, H5, i8];omega
  unfold BT1
  cases hsy : AN4 (y5 (W8 w) ((k : Int) + 1)) with
  | none =>
    unfold Q7;dsimp only;rw [hin.1, hin.2];decide
  | some x =>
    obtain ⟨hm, hy⟩ := Cp3 hsy;unfold y5 at hm;obtain ⟨s, hsm, e⟩ := List.mem_filterMap.1 hm;have htm := DV1 (hs s hsm) (DV0 e) hy;unfold Q7;dsimp only;rw [hin.1, hin.2, htm, t3, DU9 t1];rfl
theorem deedL_ok {w : D1} (hc : w.Count ≤ 1000000) {k : Nat} {l : B9} (hk : k < 4) (hl : w8 w l = true) (hb : 0 ≤ l.Begin) (he : l.End = -1 ∨ l.Begin < l.End) : Q7 (BT2 k l) = true := by
  unfold w8 within at hl
  simp only [D8, H5] at hl;obtain ⟨⟨⟨⟨⟨⟨⟨l1, l2⟩, l3⟩, l4⟩, l5⟩, l6⟩, l7⟩, l8⟩ := hl;have hin : (BE9 (50 + (k : Int)) && within l.Begin 0 1000000) = true ∧ (l.End == -1 || within l.End (l.Begin + 1) 1000000) = true := by
    unfold BE9 within
    simp only [D8, AB1, H5, i8];omega
  unfold BT2 Q7;dsimp only;rw [hin.1, hin.2, l6, l4];rfl
theorem Ca0 {w : D1} (hw : o9 w = true) (hs : ∀ s ∈ W8 w, GS s) (he : EndsOk w) : AG4 (An3 w) = true := by
  have g := BN7 hw;have h1 := Ax7 (ss := W8 w) (l := w.Txns) (n := w.Txns.length);have h2 := Bf0 (l := w.Looks) (n := w.Looks.length);have h3 := g.txns.1;have h4 := g.looks.1;unfold AG4 An3;rw [D8, H5, Y6];refine ⟨by rw [G3]; omega, fun d hd => ?_⟩;rcases u6.1 hd with hd | hd
  · unfold r8 at hd
    obtain ⟨k, hk, e⟩ := List.mem_filterMap.1 hd;have hk := List.mem_range.1 hk;unfold BK7 at e
    cases ht : w.Txns[k]? with
    | none => rw [ht] at e; cases e
    | some t =>
      rw [ht] at e;dsimp only at e;split at e
      · cases e
      · injection e with e; subst e
        have hm := C2 ht;exact deedT_ok hs g.count.2 qz8 (g.txns.2 t hm) qz8 (he.txns t hm)
  · unfold AH8 at hd
    obtain ⟨k, hk, e⟩ := List.mem_filterMap.1 hd;have hk := List.mem_range.1 hk;unfold BK8 at e
    cases ht : w.Looks[k]? with
    | none => rw [ht] at e; cases e
    | some l =>
      rw [ht] at e;dsimp only at e;split at e
      · rename_i hc
        injection e with e; subst e
        have hm := C2 ht;exact deedL_ok g.count.2 qz8 (g.looks.2 l hm) hc.1 (he.looks l hm)
      · cases e
def BP8 (g : F9) : Str := 32 :: (g.Key ++ 63 :: (if g.There = true then g.Val else [45]))
def wrT (x : A5) : Str := 32 :: (x.Key ++ (if x.Gone = true then [45] else 61 :: x.Val))
def Ac4 (d : E0) : Str := (if d.Look = true then 108 else 116) :: (Z6 d.Txn ++ 32 :: (Z6 d.Begin ++ 45 :: ((if d.End = -1 then [63] else Z6 d.End) ++ (if d.Yes = true then 32 :: 64 :: Z6 d.Time else [32, 110, 111]))))
def Ar1 (d : E0) : Str := Ac4 d ++ ((d.Got.map BP8).flatten ++ ((d.Writes.map wrT).flatten ++ [10]))
def AH9 (h : List E0) : Str := (h.map Ar1).flatten
def Aa4 (s : Str) : Nat := (s.filter fun c => decide (c.toNat = 10)).length
theorem Av4 {a b : Str} : Aa4 (a ++ b) = Aa4 a + Aa4 b := by unfold Aa4; rw [List.filter_append, G3]
theorem Bf1 {s : Str} (h : ∀ c ∈ s, c.toNat ≠ 10) : Aa4 s = 0 := by
  unfold Aa4;rw [List.filter_eq_nil_iff.2 fun c hc e => h c hc (by simpa using e)]; rfl
theorem BS1 (n : Int) : ∀ c ∈ Z6 n, c.toNat ≠ 10 := fun c hc e => by
  refine CS0 (n := n) (c := c) ⟨.inl qz8, fun h => ?_⟩ hc;subst h; revert e; decide
theorem CH5 {s o : Str} (h : AP0 s o = true) (ho : ∀ d ∈ o, d.toNat ≠ 10) : ∀ c ∈ s, c.toNat ≠ 10 := fun c hc e => by
  unfold AP0 at h;have h1 := Y6.1 h c hc;rw [AB1] at h1;rcases h1 with h1 | h1
  · unfold Ai0 at h1
    simp at h1;omega
  · obtain ⟨d, hd, h2⟩ := List.any_eq_true.1 h1
    have h3 : (c.toNat : Int) = (d.toNat : Int) := by simpa using h2
    exact ho d hd qz8
theorem Cp4 {s : Str} (h : q6 s = true) : ∀ c ∈ s, c.toNat ≠ 10 := by
  rw [AA2] at h;unfold r5 at h;rw [D8] at h;exact CH5 h.2 D4
theorem Cp5 {s : Str} {g : Bool} (h : AE2 s g = true) : ∀ c ∈ s, c.toNat ≠ 10 := by
  unfold AE2 AO9 at h;rw [D8, D8, BX7] at h;exact CH5 h.1.2 D4
theorem AZ4 {s : Str} {b : UInt8} (hb : b.toNat ≠ 10) (h : ∀ c ∈ s, c.toNat ≠ 10) : ∀ c ∈ b :: s, c.toNat ≠ 10 := fun c hc => by
  rcases T0.1 hc with rfl | hc
  · exact hb
  · exact h c hc
theorem BN8 {a b : Str} (h1 : ∀ c ∈ a, c.toNat ≠ 10) (h2 : ∀ c ∈ b, c.toNat ≠ 10) : ∀ c ∈ a ++ b, c.toNat ≠ 10 := fun c hc => by
  rcases u6.1 hc with hc | hc
  · exact h1 c hc
  · exact h2 c hc
theorem Ca1 {α : Type} {f : α → Str} {l : List α} (h : ∀ x ∈ l, ∀ c ∈ f x, c.toNat ≠ 10) : ∀ c ∈ (l.map f).flatten, c.toNat ≠ 10 := fun c hc => by
  obtain ⟨s, hs, hcs⟩ := List.mem_flatten.1 hc;obtain ⟨x, hx, rfl⟩ := m1.1 hs;exact h x hx c hcs
theorem BJ1 {s : Str} (h : (s.all fun c => decide (c.toNat ≠ 10)) = true) : ∀ c ∈ s, c.toNat ≠ 10 := fun c hc => by
  have := Y6.1 h c hc; simpa using this
theorem Ag6 : ∀ {l p : List F9}, AW1 p l = true → ∀ g ∈ l, Ac3 g = true
  | [], _, _, _, h => by cases h
  | x :: l, p, hg, g, h => by
    unfold AW1 at hg;rw [D8, D8] at hg;rcases T0.1 h with rfl | h
    · exact hg.1.1
    · exact Ag6 hg.2 g h
theorem Cp6 {d : E0} (h : Q7 d = true) : Aa4 (Ar1 d) = 1 := by
  unfold Q7 at h;simp only [D8] at h;obtain ⟨⟨_, hg⟩, hw⟩ := h;unfold AC4 at hg;rw [D8] at hg;rw [AX5] at hw;unfold AM4 at hw;rw [D8, D8, Y6] at hw;have h1 : ∀ c ∈ Ac4 d, c.toNat ≠ 10 := by
    unfold Ac4;refine AZ4 (by split <;> decide) (BN8 (BS1 _) (AZ4 D4 (BN8 (BS1 _) (AZ4 D4 (BN8 ?_ ?_)))))
    · split
      · exact BJ1 D4
      · exact BS1 _
    · split
      · exact AZ4 D4 (AZ4 D4 (BS1 _))
      · exact BJ1 D4
  have h2 : ∀ c ∈ (d.Got.map BP8).flatten, c.toNat ≠ 10 := Ca1 fun g hgm => by
    have hk := Ag6 hg.1 g hgm;unfold Ac3 at hk;rw [D8] at hk;unfold BP8;refine AZ4 D4 (BN8 (Cp4 hk.1) (AZ4 D4 ?_));split
    · exact Cp5 hk.2
    · exact BJ1 D4
  have h3 : ∀ c ∈ (d.Writes.map wrT).flatten, c.toNat ≠ 10 := Ca1 fun x hx => by
    have hk := hw.1.1 x hx;unfold AJ8 AY0 at hk;rw [D8, D8, ← AA2] at hk;unfold wrT;refine AZ4 D4 (BN8 (Cp4 hk.1.1) ?_);split
    · exact BJ1 D4
    · exact AZ4 D4 (Cp5 (g := x.Gone) (by rw [AU5, hk.1.2, hk.2]; rfl))
  unfold Ar1;rw [Av4, Av4, Av4, Bf1 h1, Bf1 h2, Bf1 h3];rfl
theorem Bn4 : ∀ {h : List E0}, (∀ d ∈ h, Q7 d = true) → Aa4 (AH9 h) = h.length
  | [], _ => rfl
  | d :: h, hk => by
    have ih := Bn4 (h := h) fun x hx => hk x (S7 _ hx);unfold AH9 at ih ⊢;rw [j4, Ac1, Av4, ih, Cp6 (hk d a8), I9]; omega
theorem Bw7 {h : List E0} {i : Nat} {d : E0} (hx : h[i]? = some d) : AH9 (h.take (i + 1)) = AH9 (h.take i) ++ Ar1 d := by
  unfold AH9; rw [W1, hx, X8, Ah3]; simp
theorem DL0 {a b : E0} (ha : Q7 a = true) (hb : Q7 b = true) : (ahead a b && ahead b a) = false := by
  unfold Q7 within at ha hb
  simp only [D8, AB1, H5, i8] at ha hb;unfold ahead;rw [← Bool.not_eq_true];intro h;simp only [D8, H5, Ay7] at h;omega
theorem Ax8 {ss : List E9} {n : Int} {i : Nat} {s : E9} (h : ss[i]? = some s) : y5 (ss.take (i + 1)) n = y5 (ss.take i) n ++ (Ac2 s.Told n).toList := by
  unfold y5;rw [W1, h, List.filterMap_append];congr 1
theorem BV4 {ss : List E9} {n : Int} : (y5 ss n).length ≤ ss.length := List.length_filterMap_le _ _
theorem Bw8 {l : List G7} {x : G7} (h0 : l[0]? = some x) (hy : x.Yes = true) (ha : ∀ y ∈ l, y = x) : AN4 l = some x := by
  cases l with
  | nil => cases h0
  | cons z r =>
    injection h0 with h0; subst h0
    unfold AN4;exact D3 (by rw [hy, Bool.true_and, Y6]; exact fun y hm => q8 (ha y hm))
theorem BJ2 {l : List G7} {x : G7} (h0 : l[0]? = some x) (h : x.Yes = false ∨ ∃ y ∈ l, y ≠ x) : AN4 l = none := by
  cases l with
  | nil => cases h0
  | cons z r =>
    injection h0 with h0; subst h0
    unfold AN4;refine C5 fun hc => ?_;rw [D8, Y6] at hc;rcases h with h | ⟨y, hm, hne⟩
    · rw [h] at hc; cases hc.1
    · exact hne (by simpa using hc.2 y hm)
theorem Bw9 {l : List G7} (h : l.length = 0) : AN4 l = none := by rw [Ar9 h]; rfl
theorem CH6 {ss : List E9} {l : List B5} {k : Nat} {t : B5} (h : l[k]? = some t) (hb : t.Begin < 0) : BK7 ss l k = none := by unfold BK7; rw [h]; exact D3 hb
theorem CH7 {ss : List E9} {l : List B5} {k : Nat} {t : B5} (h : l[k]? = some t) (hb : ¬ t.Begin < 0) : BK7 ss l k = some (BT1 ss k t) := by unfold BK7; rw [h]; exact C5 hb
theorem CH8 {l : List B9} {k : Nat} {x : B9} (h : l[k]? = some x) (hb : 0 ≤ x.Begin ∧ x.Got.length = x.Keys.length) : BK8 l k = some (BT2 k x) := by unfold BK8; rw [h]; exact D3 hb
theorem CH9 {l : List B9} {k : Nat} {x : B9} (h : l[k]? = some x) (hb : ¬ (0 ≤ x.Begin ∧ x.Got.length = x.Keys.length)) : BK8 l k = none := by unfold BK8; rw [h]; exact C5 hb
theorem Ca2 {ss : List E9} {k : Nat} {t : B5} {x : G7} (h : AN4 (y5 ss ((k : Int) + 1)) = some x) : BT1 ss k t = ⟨(k : Int) + 1, t.Begin, t.End, true, false, x.Time, t.Got, (Q2 t.Ops t.Got).2.2⟩ := by unfold BT1; rw [h]
theorem Cp7 {ss : List E9} {k : Nat} {t : B5} (h : AN4 (y5 ss ((k : Int) + 1)) = none) : BT1 ss k t = ⟨(k : Int) + 1, t.Begin, t.End, false, false, 0, [], []⟩ := by unfold BT1; rw [h]
def Bh5 (l : List A5) : Prop := ∀ w ∈ l, w.Gone = true → w.Val = []
def CO3 (l : List F9) : Prop := ∀ g ∈ l, g.There = false → g.Val = []
theorem calm_nil : Bh5 [] := fun w hw => by cases hw
theorem l5N_nil : (l5N []).1 = 0 := by decide
theorem Cy2 {buf : List A5} {got : List F9} {k : Str} (hb : Bh5 buf) (hg : CO3 got) (h : (C4 buf got k).2.1 = false) : (C4 buf got k).1 = [] := by
  unfold C4 at h ⊢;split
  · rename_i w hw
    rw [hw] at h;exact hb w (Ah2 hw) Aj4
  · rename_i hw
    rw [hw] at h;dsimp only at h ⊢;split
    · rename_i g hg2
      rw [hg2] at h;exact hg g (Ah2 hg2) Aj4
    · rfl
theorem CI0 {o : TOp} {buf : List A5} {got : List F9} {k : Str} (hb : Bh5 buf) (hg : CO3 got) : BP7 o (C4 buf got k).1 (C4 buf got k).2.1 = (l5N (C4 buf got k).1).1 + o.By := by
  unfold BP7
  cases h : (C4 buf got k).2.1 with
  | true => rw [D3 rfl]
  | false => rw [C5 D4, Cy2 hb hg h, l5N_nil]
theorem BJ3 {o : TOp} {v : Str} {t : Bool} {buf : List A5} (h : Bh5 buf) : Bh5 (U1 o v t buf) := by
  unfold U1;split
  · intro w hw
    rcases AX6 hw with rfl | hw
    · intro e; cases e
    · exact h w hw
  · split
    · intro w hw
      rcases AX6 hw with rfl | hw
      · intro _; rfl
      · exact h w hw
    · split
      · intro w hw
        rcases AX6 hw with rfl | hw
        · intro e; cases e
        · exact h w hw
      · exact h
theorem DV2 {l : List F9} (h : AC4 l = true) : CO3 l := fun g hg ht => by
  unfold AC4 at h;rw [D8] at h;have h1 := Ag6 h.1 g hg;unfold Ac3 AE2 at h1;rw [ht] at h1;simp only [D8, Bool.not_false, Bool.not_true, Bool.false_or] at h1;have h2 := h1.2.2;simpa using h2
def AS8 (o : TOp) (val : Str) (there : Bool) : Bool := !y7 o val there
theorem holds4 {o : TOp} {v : Str} {t : Bool} (h : o.Kind = 4) : AS8 o v t = (!t || ((l5N v).2 && within ((l5N v).1 + o.By) (-999999) 999999)) := by
  unfold AS8 y7;rw [D3 h]
  cases t <;> cases (l5N v).2 <;> cases within ((l5N v).1 + o.By) (-999999) 999999 <;> rfl
theorem holds5 {o : TOp} {v : Str} {t : Bool} (h : o.Kind = 5) : AS8 o v t = ((t && (l5N v).2) && decide (o.By ≤ (l5N v).1)) := by
  unfold AS8 y7;rw [C5 qz8, D3 h];by_cases hb : (l5N v).1 < o.By
  · rw [q8 hb, AP9 qz8]; simp
  · rw [AP9 hb, q8 qz8]; cases t <;> cases (l5N v).2 <;> rfl
theorem holds6 {o : TOp} {v : Str} {t : Bool} (h : o.Kind = 6) : AS8 o v t = !t := by
  unfold AS8 y7;rw [C5 qz8, C5 qz8, D3 h]
theorem holds7 {o : TOp} {v : Str} {t : Bool} (h : o.Kind = 7) : AS8 o v t = (t && (v == o.Val)) := by
  unfold AS8 y7;rw [C5 qz8, C5 qz8, C5 qz8, D3 h]
  cases t <;> simp [bne]
theorem holds0 {o : TOp} {v : Str} {t : Bool} (h : o.Kind ≠ 4 ∧ o.Kind ≠ 5 ∧ o.Kind ≠ 6 ∧ o.Kind ≠ 7) : AS8 o v t = true := by
  unfold AS8 y7;rw [C5 h.1, C5 h.2.1, C5 h.2.2.1, C5 h.2.2.2]; rfl
theorem Ca3 {got : List F9} {buf : List A5} {o : TOp} {l : List TOp} (h : o.Kind = 2 ∨ o.Kind = 3) : e8 got buf (o :: l) = e8 got (U1 o (C4 buf got o.Key).1 (C4 buf got o.Key).2.1 buf) l := by
  have h1 : asks o (C4 buf got o.Key) = false := by unfold asks; rcases h with h | h <;> rw [h] <;> simp
  have h2 : y7 o (C4 buf got o.Key).1 (C4 buf got o.Key).2.1 = false := by
    unfold y7;rw [C5 qz8, C5 qz8, C5 qz8, C5 qz8]
  conv => lhs; unfold e8
  rw [C5 (by rw [h1]; decide), C5 (by rw [h2]; decide)]
theorem DV3 {got : List F9} {buf : List A5} {o : TOp} {l : List TOp} (h2 : o.Kind ≠ 2) (h3 : o.Kind ≠ 3) (hk : (C4 buf got o.Key).2.2 = false) : e8 got buf (o :: l) = (1, o.Key, []) := by
  have h1 : asks o (C4 buf got o.Key) = true := by unfold asks; rw [hk]; simp [h2, h3]
  unfold e8;rw [D3 h1]
theorem DL1 {got : List F9} {buf : List A5} {o : TOp} {l : List TOp} (hk : (C4 buf got o.Key).2.2 = true) (hh : AS8 o (C4 buf got o.Key).1 (C4 buf got o.Key).2.1 = false) : e8 got buf (o :: l) = (2, [], []) := by
  have h1 : asks o (C4 buf got o.Key) = false := by unfold asks; rw [hk]; simp
  unfold AS8 at hh;unfold e8;rw [C5 (by rw [h1]; decide), D3 (by simpa using hh)]
theorem stepI_on {got : List F9} {buf : List A5} {o : TOp} {l : List TOp} (hk : (C4 buf got o.Key).2.2 = true) (hh : AS8 o (C4 buf got o.Key).1 (C4 buf got o.Key).2.1 = true) : e8 got buf (o :: l) = e8 got (U1 o (C4 buf got o.Key).1 (C4 buf got o.Key).2.1 buf) l ∧ y7 o (C4 buf got o.Key).1 (C4 buf got o.Key).2.1 = false := by
  have h1 : asks o (C4 buf got o.Key) = false := by unfold asks; rw [hk]; simp
  have h2 : y7 o (C4 buf got o.Key).1 (C4 buf got o.Key).2.1 = false := by unfold AS8 at hh; simpa using hh
  refine ⟨?_, h2⟩;conv => lhs; unfold e8
  rw [C5 (by rw [h1]; decide), C5 (by rw [h2]; decide)]
theorem Ca4 {o : TOp} {v : Str} {t : Bool} (h : o.Kind = 2 ∨ o.Kind = 3) : y7 o v t = false := by
  unfold y7;rw [C5 qz8, C5 qz8, C5 qz8, C5 qz8]
theorem opPut2 {o : TOp} {v : Str} {t : Bool} {buf : List A5} (h : o.Kind = 2) : U1 o v t buf = ins buf ⟨o.Key, o.Val, false⟩ := by unfold U1; rw [D3 h]
theorem opPut3 {o : TOp} {v : Str} {t : Bool} {buf : List A5} (h : o.Kind = 3) : U1 o v t buf = ins buf ⟨o.Key, [], true⟩ := by unfold U1; rw [C5 qz8, D3 h]
theorem opPut4 {o : TOp} {buf : List A5} {got : List F9} {k : Str} (hb : Bh5 buf) (hg : CO3 got) (h : o.Kind = 4) : U1 o (C4 buf got k).1 (C4 buf got k).2.1 buf = ins buf ⟨o.Key, Z6 ((l5N (C4 buf got k).1).1 + o.By), false⟩ := by
  unfold U1;rw [C5 qz8, C5 qz8, D3 h, CI0 hb hg]
theorem opPut0 {o : TOp} {v : Str} {t : Bool} {buf : List A5} (h2 : o.Kind ≠ 2) (h3 : o.Kind ≠ 3) (h4 : o.Kind ≠ 4) : U1 o v t buf = buf := by unfold U1; rw [C5 h2, C5 h3, C5 h4]
def Az9 (l : List G7) : List G7 × Bool := if (l.all fun t => decide (l[0]? = some t)) = true then (l, true) else ([], false)
theorem DV4 {l : List G7} {i : Nat} {x y : G7} (h0 : l[0]? = some x) (hi : l[i]? = some y) (hne : y ≠ x) : Az9 l = ([], false) := by
  unfold Az9;refine C5 fun h => ?_;have h1 := Y6.1 h y (C2 hi);rw [H5, h0] at h1;injection h1 with h1
  exact hne h1.symm
theorem sameL_ok {l : List G7} (h : ∀ (j : Nat) (y : G7), l[j]? = some y → l[0]? = some y) : Az9 l = (l, true) := by
  unfold Az9;refine D3 (Y6.2 fun y hy => ?_);obtain ⟨j, hj⟩ := i7 hy;exact q8 (h j y hj)
theorem DV5 {l : List G7} {x : G7} (h0 : (Az9 l).1[0]? = some x) (hy : x.Yes = true) : AN4 l = some x := by
  unfold Az9 at h0;split at h0
  · rename_i h
    refine Bw8 h0 hy fun y hm => ?_;have h1 := Y6.1 h y hm;rw [H5] at h1;dsimp only at h0;rw [h0] at h1;injection h1 with h1; exact h1.symm
  · cases h0
theorem sameL_no {l : List G7} (h : ∀ x, (Az9 l).1[0]? = some x → x.Yes = false) : AN4 l = none := by
  cases hl : l[0]? with
  | none => exact Bw9 (by rw [List.getElem?_eq_none_iff] at hl; omega)
  | some x =>
    unfold Az9 at h;split at h
    · exact BJ2 hl (.inl (h x hl))
    · rename_i hn
      refine BJ2 hl (.inr ?_);refine Classical.byContradiction fun hc => hn (Y6.2 fun y hy => q8 ?_);refine Classical.byContradiction fun h2 => hc ⟨y, hy, fun e => h2 (by rw [hl, e])⟩
theorem CS2 (a b : G7) : (!(a.Txn == b.Txn && (a.Yes == b.Yes && (a.Time == b.Time && true)))) = !decide (a = b) := by
  congr 1
  cases a; cases b
  rw [AW7];simp only [D8, i8, H5, G7.mk.injEq, and_true]
theorem Au0 {l : List F9} (h : AC4 l = true) : l.length ≤ 8 ∧ ∀ g ∈ l, g.size ≤ 36 := by
  have h9 := h;unfold AC4 at h9;rw [D8, H5] at h9;refine ⟨by omega, fun g hg => ?_⟩;have h1 := Ag6 h9.1 g hg;unfold Ac3 at h1;rw [D8] at h1;have h2 := Ax2 h1.1;have h3 : g.Val.length ≤ 24 := by
    have h4 := h1.2;rw [AU5, D8] at h4;have h5 := h4.1;unfold AO3 at h5;rw [D8, H5] at h5;omega
  unfold F9.size; omega
theorem Bx0 {d : E0} (h : Q7 d = true) : d.size ≤ 5000 := by
  have hd := BV3 h;unfold Q7 at h;simp only [D8] at h;have hg := Au0 h.1.2;have hw := hd.1;unfold AM4 at hw;rw [D8, H5] at hw;have h2 := w6 (f := F9.size) (c := 36) (l := d.Got) hg.2;have h4 := w6 (f := A5.size) (c := 36) (l := d.Writes) fun w hm => DJ0 (hd.2.1 w hm);show C9 F9.size d.Got + C9 A5.size d.Writes ≤ 5000
  omega
def AL2 (w : D1) : List E0 × Bool := if o9 w = true then (An3 w, true) else ([], false)
theorem DL2 {l : List G7} {x : G7} (hx : 0 < l.length → l[0]? = some x) (h : ((decide ((l.length : Int) > 0) && x.Yes) && !(l.any fun t => !decide (t = x))) = true) : AN4 l = some x ∧ 0 < l.length := by
  simp only [D8, H5, q7] at h;obtain ⟨⟨h1, h2⟩, h3⟩ := h;have hl : 0 < l.length := by omega
  refine ⟨Bw8 (hx hl) h2 fun y hy => ?_, hl⟩;have h4 := List.any_eq_false.1 h3 y hy;simpa using h4
theorem Cy3 {l : List G7} {x : G7} (hx : 0 < l.length → l[0]? = some x) (h : ((decide ((l.length : Int) > 0) && x.Yes) && !(l.any fun t => !decide (t = x))) = false) : AN4 l = none := by
  by_cases hl : 0 < l.length
  · rw [q8 (show (l.length : Int) > 0 by omega), Bool.true_and, Bool.and_eq_false_iff] at h
    rcases h with h | h
    · exact BJ2 (hx hl) (.inl h)
    · rw [AJ5] at h
      obtain ⟨y, hy, hne⟩ := List.any_eq_true.1 h;exact BJ2 (hx hl) (.inr ⟨y, hy, by simpa using hne⟩)
  · exact Bw9 qz8
theorem Bx1 {ss : List E9} {l : List B5} {i : Nat} (h : BK7 ss l i = none) : r8 ss l (i + 1) = r8 ss l i := by rw [Bw5, h]; exact S0 _
theorem BD7 {ss : List E9} {l : List B5} {i : Nat} {d : E0} (h : BK7 ss l i = some d) : r8 ss l (i + 1) = r8 ss l i ++ [d] := by rw [Bw5, h]; rfl
theorem Bx2 {l : List B9} {i : Nat} {x : List E0} (h : BK8 l i = none) : x ++ AH8 l (i + 1) = x ++ AH8 l i := by rw [Bw6, h]; exact E5 (x ++ ·) (S0 _)
theorem Bx3 {l : List B9} {i : Nat} {x : List E0} {d : E0} (h : BK8 l i = some d) : x ++ AH8 l (i + 1) = (x ++ AH8 l i) ++ [d] := by rw [Bw6, h]; exact (m6 _ _ _).symm
theorem CI1 {x : List E0} {l : List B9} : x = x ++ AH8 l 0 := (S0 _).symm
def Ak2 (d : E0) : Str := if d.Look = true then [108] else [116]
def BA0 (d : E0) : Str := if d.End = -1 then [63] else Z6 d.End
def BK9 (d : E0) : Str := if d.Yes = true then 32 :: 64 :: Z6 d.Time else [32, 110, 111]
def BP9 (g : F9) : Str := if g.There = true then g.Val else [45]
def wvT (w : A5) : Str := if w.Gone = true then [45] else 61 :: w.Val
theorem BF9 {d : E0} (h : Q7 d = true) : (1 ≤ d.Txn ∧ d.Txn ≤ 1000000) ∧ (0 ≤ d.Begin ∧ d.Begin ≤ 1000000) ∧ (d.End = -1 ∨ (0 ≤ d.End ∧ d.End ≤ 1000000)) ∧ (0 ≤ d.Time ∧ d.Time ≤ 1000000) := by
  unfold Q7 BE9 j6 within at h
  simp only [D8, AB1, H5, i8] at h;omega
theorem CS3 {d : E0} : (((((Ak2 d ++ Z6 d.Txn) ++ [32]) ++ Z6 d.Begin) ++ [45]) ++ BA0 d) ++ BK9 d = Ac4 d := by
  unfold Ac4 Ak2 BA0 BK9
  cases d.Look <;> simp
theorem Bn5 {g : F9} : (([32] ++ g.Key) ++ [63]) ++ BP9 g = BP8 g := by unfold BP8 BP9; simp
theorem CI2 {w : A5} : ([32] ++ w.Key) ++ wvT w = wrT w := by unfold wrT wvT; simp
def AJ1 (d : E0) (i : Nat) : Str := Ac4 d ++ ((d.Got.take i).map BP8).flatten
def AR8 (d : E0) (i : Nat) : Str := AJ1 d d.Got.length ++ ((d.Writes.take i).map wrT).flatten
theorem BV5 {d : E0} {i : Nat} {x : F9} (h : d.Got[i]? = some x) : AJ1 d (i + 1) = AJ1 d i ++ BP8 x := by
  unfold AJ1; rw [W1, h, X8, Ah3]; simp
theorem Bf2 {d : E0} {i : Nat} {x : A5} (h : d.Writes[i]? = some x) : AR8 d (i + 1) = AR8 d i ++ wrT x := by
  unfold AR8; rw [W1, h, X8, Ah3]; simp
theorem Cy4 {d : E0} : ([] : Str) ++ Ac4 d = AJ1 d 0 := by unfold AJ1; simp
theorem CI3 {d : E0} : AJ1 d d.Got.length = AR8 d 0 := by unfold AR8; simp
theorem Bn6 {d : E0} : AR8 d d.Writes.length ++ [10] = Ar1 d := by
  unfold AR8 AJ1 Ar1;rw [AM2, AM2]; simp only [m6]
theorem BS2 {α : Type} {f : α → Str} {c : Nat} : ∀ {l : List α}, (∀ x ∈ l, (f x).length ≤ c) → (l.map f).flatten.length ≤ l.length * c
  | [], _ => E2 _
  | x :: l, h => by
    have ih := BS2 (l := l) fun y hy => h y (S7 _ hy);have h1 := h x a8;rw [j4, Ac1, G3, I9, Nat.add_mul]; omega
theorem Am0 {n : Int} (h : -999999 ≤ n ∧ n ≤ 1000000) : (Z6 n).length ≤ 7 := by
  by_cases h1 : 0 ≤ n
  · exact itoa_len ⟨h1, h.2⟩
  · exact Bn3 ⟨h.1, by omega⟩
structure Cw3 (d : E0) : Prop where
  txn : (Z6 d.Txn).length ≤ 7
  begin' : (Z6 d.Begin).length ≤ 7
  kind : (Ak2 d).length = 1
  end' : (BA0 d).length ≤ 7
  time : (BK9 d).length ≤ 9
  head : (Ac4 d).length ≤ 40
  head0 : 0 < (Ac4 d).length
  gotK : ∀ g ∈ d.Got, g.Key.length ≤ 12 ∧ (BP9 g).length ≤ 24 ∧ (BP8 g).length ≤ 40
  wrK : ∀ w ∈ d.Writes, w.Key.length ≤ 12 ∧ w.Val.length ≤ 24 ∧ (wvT w).length ≤ 25 ∧ (wrT w).length ≤ 40
  few : d.Got.length ≤ 8 ∧ d.Writes.length ≤ 24
theorem CS4 {d : E0} (h : Q7 d = true) : Cw3 d := by
  obtain ⟨h1, h2, h3, h4⟩ := BF9 h;have hw := BV3 h;have hg : AC4 d.Got = true := by unfold Q7 at h; simp only [D8] at h; exact h.1.2
  have l1 := Am0 (n := d.Txn) qz8;have l2 := Am0 (n := d.Begin) qz8;have l3 : (BA0 d).length ≤ 7 := by
    unfold BA0; split
    · decide
    · exact Am0 qz8
  have l4 : (BK9 d).length ≤ 9 := by
    unfold BK9; split
    · have := Am0 (n := d.Time) qz8; simp only [I9]; omega
    · decide
  have l5 : (Ak2 d).length = 1 := by unfold Ak2; split <;> rfl
  have l6 : (Ac4 d).length ≤ 40 ∧ 0 < (Ac4 d).length := by
    rw [← CS3];simp only [G3, I9, Q8];omega
  refine ⟨l1, l2, l5, l3, l4, l6.1, l6.2, fun g hgm => ?_, fun w hm => ?_, (Au0 hg).1, ?_⟩
  · have hs := (Au0 hg).2 g hgm
    have hk : Ac3 g = true := by unfold AC4 at hg; rw [D8] at hg; exact Ag6 hg.1 g hgm
    unfold Ac3 at hk;rw [D8, AU5, D8] at hk;have k1 := Ax2 hk.1;have k2 : g.Val.length ≤ 24 := by
      have h5 := hk.2.1;unfold AO3 at h5;rw [D8, H5] at h5; omega
    have k3 : (BP9 g).length ≤ 24 := by
      unfold BP9; split
      · exact k2
      · decide
    refine ⟨k1, k3, ?_⟩;rw [← Bn5];simp only [G3, I9, Q8]; omega
  · have hk := hw.2.1 w hm
    unfold AJ8 AY0 at hk;rw [D8, D8, ← AA2] at hk;have k1 := Ax2 hk.1.1;have k2 : w.Val.length ≤ 24 := by
      have h5 := hk.1.2;unfold AO3 at h5;rw [D8, H5] at h5; omega
    have k3 : (wvT w).length ≤ 25 := by
      unfold wvT; split
      · decide
      · simp only [I9]; omega
    refine ⟨k1, k2, k3, ?_⟩;rw [← CI2];simp only [G3, I9, Q8]; omega
  · have h9 := hw.1
    unfold AM4 at h9;rw [D8, H5] at h9;have := h9.2; omega
theorem Bf3 {d : E0} (t : Cw3 d) (i : Nat) : (AJ1 d i).length ≤ 400 ∧ 0 < (AJ1 d i).length := by
  have h := BS2 (f := BP8) (c := 40) (l := d.Got.take i) fun x hx => (t.gotK x (AW6 hx)).2.2;have h2 : (d.Got.take i).length * 40 ≤ 8 * 40 := AA3 _ (by rw [H4]; have := t.few.1; omega);have := t.head;have := t.head0;unfold AJ1; rw [G3]; omega
theorem BG0 {d : E0} (t : Cw3 d) (i : Nat) : (AR8 d i).length ≤ 1400 ∧ 0 < (AR8 d i).length := by
  have h := BS2 (f := wrT) (c := 40) (l := d.Writes.take i) fun x hx => (t.wrK x (AW6 hx)).2.2.2;have h2 : (d.Writes.take i).length * 40 ≤ 24 * 40 := AA3 _ (by rw [H4]; have := t.few.2; omega);have := Bf3 t d.Got.length;unfold AR8; rw [G3]; omega
theorem CI4 {d : E0} (h : Q7 d = true) : (Ar1 d).length ≤ 1500 := by
  have := BG0 (CS4 h) d.Writes.length;rw [← Bn6, G3]; simp only [I9, Q8]; omega
theorem Bf4 {h : List E0} (hd : ∀ d ∈ h, Q7 d = true) (hl : h.length ≤ 10) (i : Nat) : (AH9 (h.take i)).length ≤ 15000 := by
  have h1 := BS2 (f := Ar1) (c := 1500) (l := h.take i) fun x hx => CI4 (hd x (AW6 hx));have h2 : (h.take i).length * 1500 ≤ 10 * 1500 := AA3 _ Br9;unfold AH9; omega
def BA1 (h : List E0) : Str × Bool := if AG4 h = true then (AH9 h, true) else ([], false)
theorem Ax9 {h : List E0} (g : AG4 h = true) : (∀ d ∈ h, Q7 d = true) ∧ h.length ≤ 10 := by
  unfold AG4 at g;rw [D8, H5, Y6] at g;exact ⟨g.2, by omega⟩
def Bh6 (d : E0) : Str := if d.Yes = true then 64 :: Z6 d.Time else [110, 111]
theorem head_eq2 {d : E0} : ((((((Ak2 d ++ Z6 d.Txn) ++ [32]) ++ Z6 d.Begin) ++ [45]) ++ BA0 d) ++ [32]) ++ Bh6 d = Ac4 d := by
  unfold Ac4 Ak2 BA0 Bh6
  cases d.Look <;> cases d.Yes <;> simp
theorem DF4 {S : Str} {d : E0} {i : Nat} {g : F9} (h : d.Got[i]? = some g) (ht : g.There = true) : ((S ++ AJ1 d i) ++ (([32] ++ g.Key) ++ [63])) ++ g.Val = S ++ AJ1 d (i + 1) := by
  rw [BV5 h, ← Bn5]; unfold BP9; rw [D3 ht]; simp
theorem gtx_no {S : Str} {d : E0} {i : Nat} {g : F9} (h : d.Got[i]? = some g) (ht : g.There = false) : ((S ++ AJ1 d i) ++ (([32] ++ g.Key) ++ [63])) ++ [45] = S ++ AJ1 d (i + 1) := by
  rw [BV5 h, ← Bn5]; unfold BP9; rw [C5 (by rw [ht]; decide)]; simp
theorem DF5 {S : Str} {d : E0} {i : Nat} {w : A5} (h : d.Writes[i]? = some w) (ht : w.Gone = true) : ((S ++ AR8 d i) ++ ([32] ++ w.Key)) ++ [45] = S ++ AR8 d (i + 1) := by
  rw [Bf2 h, ← CI2]; unfold wvT; rw [D3 ht]; simp
theorem wtx_no {S : Str} {d : E0} {i : Nat} {w : A5} (h : d.Writes[i]? = some w) (ht : w.Gone = false) : ((S ++ AR8 d i) ++ ([32] ++ w.Key)) ++ ([61] ++ w.Val) = S ++ AR8 d (i + 1) := by
  rw [Bf2 h, ← CI2]; unfold wvT; rw [C5 (by rw [ht]; decide)]; simp
theorem Cp8 {d : E0} : Ac4 d = AJ1 d 0 := by unfold AJ1; simp
theorem line_end {h : List E0} {i : Nat} {d : E0} (hx : h[i]? = some d) : (AH9 (h.take i) ++ AR8 d d.Writes.length) ++ [10] = AH9 (h.take (i + 1)) := by rw [Bw7 hx, ← Bn6, m6]
theorem DV6 {d : E0} (h : Q7 d = true) : (Bh6 d).length ≤ 8 := by
  obtain ⟨h1, h2, h3, h4⟩ := BF9 h;unfold Bh6; split
  · have := Am0 (n := d.Time) qz8; simp only [I9]; omega
  · decide
theorem gots_val {d : E0} (h : Q7 d = true) {g : F9} (hg : g ∈ d.Got) : g.Val.length ≤ 24 := by
  have hk : AC4 d.Got = true := by unfold Q7 at h; simp only [D8] at h; exact h.1.2
  unfold AC4 at hk; rw [D8] at hk;have h1 := Ag6 hk.1 g hg;unfold Ac3 at h1;rw [D8, AU5, D8] at h1;have h5 := h1.2.1;unfold AO3 at h5;rw [D8, H5] at h5; omega
theorem lines_le {s : Str} : Aa4 s ≤ s.length := by unfold Aa4; exact List.length_filter_le _ _
theorem Ca5 {s : Str} {k : Nat} {c : UInt8} (h : s[k]? = some c) (hc : c.toNat = 10) : Aa4 (s.take (k + 1)) = Aa4 (s.take k) + 1 := by
  rw [W1, h, Av4];unfold Aa4; simp [hc]
theorem Cp9 {s : Str} {k : Nat} {c : UInt8} (h : s[k]? = some c) (hc : c.toNat ≠ 10) : Aa4 (s.take (k + 1)) = Aa4 (s.take k) := by
  rw [W1, h, Av4];unfold Aa4; simp [hc]
theorem Bf5 (n : Int) : ∀ c ∈ Z6 n, c.toNat < 128 := fun c hc => by
  by_cases h45 : c = 45
  · subst h45; decide
  · by_cases h1 : c.toNat < 48 ∨ 57 < c.toNat
    · exact absurd hc (CS0 ⟨h1, h45⟩)
    · omega
theorem Ca6 {s o : Str} (h : AP0 s o = true) (ho : ∀ d ∈ o, d.toNat < 128) : ∀ c ∈ s, c.toNat < 128 := fun c hc => by
  unfold AP0 at h;have h1 := Y6.1 h c hc;rw [AB1] at h1;rcases h1 with h1 | h1
  · unfold Ai0 at h1
    simp at h1;omega
  · obtain ⟨d, hd, h2⟩ := List.any_eq_true.1 h1
    have h3 : (c.toNat : Int) = (d.toNat : Int) := by simpa using h2
    have := ho d hd;omega
theorem DF6 {s : Str} (h : q6 s = true) : ∀ c ∈ s, c.toNat < 128 := by
  rw [AA2] at h;unfold r5 at h;rw [D8] at h;exact Ca6 h.2 D4
theorem DF7 {s : Str} {g : Bool} (h : AE2 s g = true) : ∀ c ∈ s, c.toNat < 128 := by
  unfold AE2 AO9 at h;rw [D8, D8, BX7] at h;exact Ca6 h.1.2 D4
theorem AN1 {a b : Str} (h1 : ∀ c ∈ a, c.toNat < 128) (h2 : ∀ c ∈ b, c.toNat < 128) : ∀ c ∈ a ++ b, c.toNat < 128 := fun c hc => by
  rcases u6.1 hc with hc | hc
  · exact h1 c hc
  · exact h2 c hc
theorem AK7 {s : Str} (h : (s.all fun c => decide (c.toNat < 128)) = true) : ∀ c ∈ s, c.toNat < 128 := fun c hc => by
  have := Y6.1 h c hc; simpa using this
theorem CC0 {α : Type} {f : α → Str} {l : List α} (h : ∀ x ∈ l, ∀ c ∈ f x, c.toNat < 128) : ∀ c ∈ (l.map f).flatten, c.toNat < 128 := fun c hc => by
  obtain ⟨s, hs, hcs⟩ := List.mem_flatten.1 hc;obtain ⟨x, hx, rfl⟩ := m1.1 hs;exact h x hx c hcs
theorem DL3 {d : E0} (h : Q7 d = true) : ∀ c ∈ Ar1 d, c.toNat < 128 := by
  have hw := BV3 h;have hg : AC4 d.Got = true := by unfold Q7 at h; simp only [D8] at h; exact h.1.2
  unfold AC4 at hg;rw [D8] at hg;have l1 : ∀ c ∈ Ac4 d, c.toNat < 128 := by
    rw [← CS3];refine AN1 (AN1 (AN1 (AN1 (AN1 (AN1 ?_ (Bf5 _)) (AK7 D4)) (Bf5 _)) (AK7 D4)) ?_) ?_
    · unfold Ak2; split <;> exact AK7 D4
    · unfold BA0; split
      · exact AK7 D4
      · exact Bf5 _
    · unfold BK9; split
      · exact AN1 (a := [32, 64]) (AK7 D4) (Bf5 _)
      · exact AK7 D4
  have l2 : ∀ c ∈ (d.Got.map BP8).flatten, c.toNat < 128 := CC0 fun g hgm => by
    have hk := Ag6 hg.1 g hgm;unfold Ac3 at hk;rw [D8] at hk;rw [← Bn5];refine AN1 (AN1 (AN1 (AK7 D4) (DF6 hk.1)) (AK7 D4)) ?_;unfold BP9; split
    · exact DF7 hk.2
    · exact AK7 D4
  have l3 : ∀ c ∈ (d.Writes.map wrT).flatten, c.toNat < 128 := CC0 fun x hx => by
    have hk := hw.2.1 x hx;unfold AJ8 AY0 at hk;rw [D8, D8, ← AA2] at hk;rw [← CI2];refine AN1 (AN1 (AK7 D4) (DF6 hk.1.1)) ?_;unfold wvT; split
    · exact AK7 D4
    · exact AN1 (a := [61]) (AK7 D4) (DF7 (g := x.Gone) (by rw [AU5, hk.1.2, hk.2]; rfl))
  exact AN1 l1 (AN1 l2 (AN1 l3 (AK7 D4)))
theorem DL4 {h : List E0} (hd : ∀ d ∈ h, Q7 d = true) : ∀ c ∈ AH9 h, c.toNat < 128 := CC0 fun d hm => DL3 (hd d hm)
end Go.M
namespace Go.PQ
open Go.Proofs Go.Proofs.Tryz
open Go Go.AV Go.M
attribute [local irreducible] OpW OpA OpS AWP K6 L8 K7 L1 Le Ev G4
@[reducible] def E1 (f : FuncId) (xs : List AV) (y : AV) : Prop := K6 Tryz.prog f xs y
@[reducible] def L7 (f : FuncId) (xs : List AV) (ow : List Go.AV.Own) {α : Type} (ok : α → Prop) (O : α → List Go.AV.Own) (V : α → AV) : Prop := K8 Tryz.prog f xs ow ok O V
theorem Z2 (a b c : Int) : E1 45 [AV.int a, AV.int b, AV.int c] (AV.bool (within a b c)) := by
  refine B2 func45 rfl ntmps45 rfl ?_;refine R17 ?_;exact zq10
theorem Q0 (a b c : Int) : E1 71 [AV.int a, AV.int b, AV.int c] (AV.bool (within a b c)) := by
  refine B2 func71 rfl ntmps71 rfl ?_;refine R17 ?_;exact zq10
theorem Cy5 (c : UInt8) : E1 203 [AV.byte c] (AV.bool (Ai0 c)) := by
  refine B2 func203 rfl ntmps203 rfl ?_;refine R23 ?_;exact zq10
theorem idxB_ext (s : Str) (c : UInt8) : L8 Tryz.prog 275 [AV.str s, AV.byte c] (AV.int (Bh3 s c)) := espec_mk fun R w vs h => by
  obtain ⟨v, u, rfl, h1, h2⟩ := denV_two h;have e1 : v = .string ⟨s.toArray⟩ := h1;have e2 : u = .int .u8 c.toNat := h2;subst e1; subst e2;refine ⟨.int .i64 (Bh3 s c), ?_, rfl⟩;rw [run_callFunc_indexByte func275 E6 E6 E6 E6, run_indexByte_string];simp [Bh3]
theorem DL5 (s : Str) (c : UInt8) : E1 235 [AV.str s, AV.byte c] (AV.int (Bh3 s c)) := by
  refine B2 func235 rfl ntmps235 rfl ?_;refine R8 ?_;refine A1 rfl (w_ext rfl rfl (idxB_ext _ _) F4) ?_;exact zq136
theorem DV7 (s : Str) (c : UInt8) : E1 204 [AV.str s, AV.byte c] (AV.int (Bh3 s c)) := by
  refine B2 func204 rfl ntmps204 rfl ?_;refine R8 ?_;refine zF rfl call235 (DL5 _ _) F4 ?_;exact zq136
theorem Ca7 (s o : Str) (hs : s.length ≤ 4611686018427387904) : E1 174 [AV.str s, AV.str o] (AV.bool (hasB s o)) := by
 refine B2 func174 rfl ntmps174 rfl ?_;refine R12 ?_;refine F8 [(0, _), (1, _), (7, _)] _ (fun (i : Nat) => i ≤ s.length ∧ hasB s o = hasB (s.drop i) o) (fun i => []) (fun i => [(8, AV.int i)]) (fun i => s.length - i) (0) ?_ (H0 A4) ?_
 ·exact zq8
 intro i hinv;refine zK ?_ ?_
 ·intro h9 k9;have hlt : i < s.length := by have := AD2 h9; omega
  obtain ⟨c, hc⟩ := B3 hlt;refine R12 ?_;refine A1 rfl (AY6 rfl O3 zA zA qz3 AK2) ?_;refine zF rfl call203 (Cy5 _) I4 ?_;refine R5 ?_;refine J6 rfl (fun hc => AY6 rfl O3 (A9 rfl hc) (A9 rfl hc) qz6 AK2) ?_;refine J6 rfl (fun hc => zG rfl call204 (DV7 _ _) zS) ?_;refine zC ?_ ?_
  ·intro h23;have hfin : hasB s o = false := by rw [hinv.2, J7 hc, CX8, h23]; rfl
   refine R5 ?_;exact D5 rfl (A8 rfl (by first | exact E5 AV.bool hfin.symm | exact E5 AV.bool BQ6))
  intro h23;refine R5 ?_;refine G5 i (i + 1) ?_ ?_ (H0 A4)
  ·exact ⟨by omega, by rw [hinv.2, J7 hc, CX8, h23]; rfl⟩
  omega
 intro h9 k9;have hge : s.length ≤ i := by have := BK3 h9; omega
 refine R6 ?_;exact D5 rfl (A8 rfl (by first | exact E5 AV.bool hfin.symm | exact E5 AV.bool BQ6))
theorem Bn7 (s o : Str) (hs : s.length ≤ 4611686018427387904) (ho : o.length ≤ 4611686018427387904) : E1 161 [AV.str s, AV.str o] (AV.bool (AP0 s o)) := by
 refine B2 func161 rfl ntmps161 rfl ?_;refine R10 ?_;refine F8 [(0, _), (1, _)] _ (fun (i : Nat) => i ≤ s.length ∧ AP0 s o = AP0 (s.drop i) o) (fun i => []) (fun i => [(5, AV.int i)]) (fun i => s.length - i) (0) ?_ (H0 A4) ?_
 ·exact zq8
 intro i hinv;have hinv0 := hinv; clear hinv;refine zK ?_ ?_
 ·intro h11 k11;have hlt : i < s.length := by have := AD2 h11; omega
  obtain ⟨c, hc⟩ := B3 hlt;refine R7 ?_;refine A1 rfl (AY6 rfl O3 zA zA qz3 AK2) ?_;refine R4 ?_;refine J6 rfl (fun hc => AY6 rfl O3 (A9 rfl hc) (A9 rfl hc) qz6 AK2) ?_;refine R5 ?_;refine T6 rfl (fun hc => AY6 rfl O3 (A9 rfl hc) (A9 rfl hc) qz6 AK2) ?_;refine R4 ?_;refine AC2 rfl rfl (Z4 rfl rfl rfl) (fun hc => AY6 rfl O3 (A9 rfl hc) (A9 rfl hc) qz6 AK2) ?_;refine R11 ?_;refine J5 [(0, _), (1, _), (5, _), (8, _), (9, _), (10, _), (11, _), (14, _), (15, _), (16, _), (17, _), (18, _), (23, _), (24, _), (35, _)] _ (fun (k : Nat) (b : Bool) => k ≤ o.length ∧ (Ai0 c || o.any fun d => ((c.toNat : Int) == (d.toNat : Int))) = (b || (o.drop k).any fun d => ((c.toNat : Int) == (d.toNat : Int)))) (fun k b => []) (fun k b => [(6, AV.bool b), (7, AV.int k)]) (fun k b => o.length - k) (0) (Ai0 c) ?_ (H0 A4) ?_
  ·exact zq8
  intro k b hinv;refine zK ?_ ?_
  ·intro h39 k39;have hlt2 : k < o.length := by have := AD2 h39; omega
   obtain ⟨d, hd⟩ := B3 hlt2;refine R8 ?_;refine S5 rfl (i5 rfl rfl rfl) (fun hc => AY6 rfl O3 (A9 rfl hc) (A9 rfl hc) qz6 AK2) ?_;refine R2 ?_;refine S5 rfl (i5 rfl rfl rfl) (fun hc => AY6 rfl O3 (A9 rfl hc) (A9 rfl hc) qz6 AK2) ?_;refine R9 ?_;refine G0 k b (k + 1) ((b || ((c.toNat : Int) == (d.toNat : Int)))) ?_ ?_ (H0 A4)
   ·exact ⟨by omega, by rw [hinv.2, J7 hd, Aj8, Bool.or_assoc]⟩
   omega
  intro h39 k39;have hge2 : o.length ≤ k := by have := BK3 h39; omega
  have hg : (Ai0 c || o.any fun d => ((c.toNat : Int) == (d.toNat : Int))) = b := by rw [hinv.2, n5 hge2]; simp
  refine zC ?_ ?_
  ·intro h53;have hfin : AP0 s o = false := by rw [hinv0.2, J7 hc, Bm0, hg]; cases b <;> simp_all
   refine R5 ?_;exact D5 rfl (A8 rfl qz190)
  intro h53;have hb : b = true := by cases b <;> simp_all
  refine R6 ?_;refine G5 i (i + 1) ?_ ?_ (H0 A4)
  ·exact ⟨by omega, by rw [hinv0.2, J7 hc, Bm0, hg, hb]; rfl⟩
  omega
 intro h11 k11;have hge : s.length ≤ i := by have := BK3 h11; omega
 refine R6 ?_;exact D5 rfl (A8 rfl qz190)
theorem Ay0 (s : Str) (hs : s.length ≤ 4611686018427387904) : E1 129 [AV.str s] (AV.bool (q6 s)) := by
  refine B2 func129 rfl ntmps129 rfl ?_;refine R8 ?_;refine zF rfl call45 (Z2 _ _ _) AR2 ?_;refine R2 ?_;refine J6 rfl (fun hc => zG rfl call174 (Ca7 _ _ qz8) (A2 (A9 rfl hc) (A2 (J1 (l := [46, 47]) rfl) B0))) ?_;exact zq109
theorem Bn8 (s : Str) (hs : s.length ≤ 4611686018427387904) : E1 175 [AV.str s] (AV.bool (AO9 s)) := by
  refine B2 func175 rfl ntmps175 rfl ?_;refine R11 ?_;refine J6 rfl (fun hc => zG rfl call174 (Ca7 _ _ qz8) (A2 (A9 rfl hc) (A2 (J1 (l := [46, 45, 44, 95]) rfl) B0))) ?_;exact zq109
theorem AZ5 (s : Str) (hs : s.length ≤ 4611686018427387904) : E1 116 [AV.str s] (AV.bool (r5 s)) := by
  refine B2 func116 rfl ntmps116 rfl ?_;refine R8 ?_;refine zq132 ?_;refine R2 ?_;refine J6 rfl (fun hc => zG rfl call161 (Bn7 _ _ qz8 D4) (A2 (A9 rfl hc) (A2 (J1 (l := [46, 47]) rfl) B0))) ?_;exact zq109
end Go.PQ