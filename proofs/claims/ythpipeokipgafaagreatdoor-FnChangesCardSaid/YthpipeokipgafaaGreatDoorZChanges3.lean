/- Texts of the claim, part 3. -/
import Derived.Test.YthpipeokipgafaaGreatDoorRows
import Derived.Test.YthpipeokipgafaaGreatDoorZChanges2
set_option linter.defProp false
set_option linter.unusedVariables false
set_option linter.unusedSimpArgs false
set_option maxRecDepth 100000
set_option maxHeartbeats 4000000
namespace Go.M
open Go.AV
def isTrue (t : Int) : Bool := within t 0 100000
def AN2 (v : O3) : Bool := AR9 v.Time && AG1 v.Val v.Gone
def n9 (a b : O3) : Bool := decide (a.Time < b.Time)
def Ae7 (c : B1) : Bool := (c.Vers.all AN2 && adj n9 c.Vers) && within c.Vers.length 1 16
def n2 (l : List B1) : List Str := l.map B1.Key
def m5 (l : List B1) : Bool := l.all Ae7 && (decide ((l.length : Int) ≤ 24) && g7 (n2 l))
def AY6 (k : Str) (v : O3) : Bool := within v.Time 1 100000 && Ah4 k v.Val v.Gone
def Ae8 (c : B1) : Bool := (c.Vers.all (AY6 c.Key) && adj n9 c.Vers) && (n1 c.Key && within c.Vers.length 1 16)
def j6 (a b : B1) : Bool := Op.bytesLess a.Key b.Key
def Ap1 (l : List B1) : Bool := (l.all Ae8 && adj j6 l) && decide ((l.length : Int) ≤ 24)
theorem CB8 (c : B1) : (Ae7 c && f6 c.Key) = Ae8 c := by
  unfold Ae7 Ae8;rw [AA7, AO5];simp only [E8, l5];have key : ∀ v : O3, n1 c.Key = true → (AN2 v = true ↔ AY6 c.Key v = true) := fun v hk => by
    unfold AN2 AY6 AR9 Ah4;rw [Ai2, hk, Bool.true_and]
  constructor
  · rintro ⟨⟨⟨h1, h2⟩, h3⟩, h4⟩
    exact ⟨⟨fun v hv => (key v h4).1 (h1 v hv), h2⟩, h4, h3⟩
  · rintro ⟨⟨h1, h2⟩, h4, h3⟩
    exact ⟨⟨⟨fun v hv => (key v h4).2 (h1 v hv), h2⟩, h3⟩, h4⟩
theorem AC6 (l : List B1) : m5 l = Ap1 l := by
  unfold m5 Ap1 g7 n2;rw [BM2, AO5];simp only [E8, l5, Y0, forall_exists_index, and_imp, forall_apply_eq_imp_iff₂];constructor
  · rintro ⟨h1, h2, h3, h4⟩
    exact ⟨⟨fun c hc => by rw [← CB8, h1 c hc, h3 c hc]; rfl, h4⟩, h2⟩
  · rintro ⟨⟨h1, h4⟩, h2⟩
    have h5 : ∀ c ∈ l, Ae7 c = true ∧ f6 c.Key = true := fun c hc => by
      have := h1 c hc;rw [← CB8] at this;simpa using this
    exact ⟨fun c hc => (h5 c hc).1, h2, fun c hc => (h5 c hc).2, h4⟩
theorem W6 {l : List B1} (h : m5 l = true) : l.length ≤ 24 ∧ adj j6 l = true ∧ ∀ c ∈ l, f6 c.Key = true ∧ 1 ≤ c.Vers.length ∧ c.Vers.length ≤ 16 ∧ adj n9 c.Vers = true ∧ ∀ v ∈ c.Vers, AN2 v = true := by
  rw [AC6] at h;unfold Ap1 at h;simp only [E8, l5, H1] at h;refine ⟨by omega, h.1.2, fun c hc => ?_⟩;have hcell := h.1.1 c hc;rw [← CB8] at hcell;simp only [E8] at hcell;obtain ⟨h1, h2⟩ := hcell;unfold Ae7 at h1;simp only [E8, l5] at h1;have h3 := h1.2;unfold within at h3
  simp at h3;exact ⟨h2, by omega, by omega, h1.1.2, h1.1.1⟩
def Bp6 (k : Str) (c : B1) : Int := Aw7 c.Key k
def AC9 (l : List B1) (k : Str) : Nat := bs (Bp6 k) l 0 l.length
def Ap2 (l : List B1) (k : Str) : Bool := Ae6 (Bp6 k) l (AC9 l k)
theorem AS7 (a b c : B1) (h : j6 a b = true) (k : j6 b c = true) : j6 a c = true := U3 h k
theorem CI6 {l : List B1} (h : adj j6 l = true) (k : Str) : (∀ i x, i < AC9 l k → l[i]? = some x → Op.bytesLess x.Key k = true) ∧ (∀ x, l[AC9 l k]? = some x → Op.bytesLess x.Key k = false) := by
  have := CB7 (Bp6 k) l (fun i j x y hij hx hy hf => by
    unfold Bp6 at *;rw [Ag2] at *;exact U3 (AU6 AS7 h hij hx hy) hf) l.length 0 l.length rfl (E2 _) (K5 _) (fun k x hk => by omega) (fun x hx => by rw [AO4 (K5 _)] at hx; cases hx)
  refine ⟨fun i x hi hx => (Ag2 _ _).1 (this.1 i x hi hx), fun x hx => ?_⟩;have h2 := this.2 x hx;unfold Bp6 at h2;rw [Ag2] at h2;simpa using h2
theorem CX3 {α : Type} (f : α → Int) (l : List α) : ∀ (d i j : Nat), j - i = d → i ≤ j → j ≤ l.length → bs f l i j ≤ j := Co4
theorem CB9 (l : List B1) (k : Str) : AC9 l k ≤ l.length := CX3 _ _ _ _ _ rfl (E2 _) (K5 _)
theorem Ar7 {l : List B1} {k : Str} : Ap2 l k = true ↔ ∃ x, l[AC9 l k]? = some x ∧ x.Key = k := by
  unfold Ap2 Ae6
  cases h : l[AC9 l k]? with
  | none => simp
  | some x => simp [Bp6, BK3]
def d7 (l : List B1) (k : Str) : Option B1 := l.find? fun c => c.Key == k
theorem DA6 {l : List B1} (ha : adj j6 l = true) {i j : Nat} {a b : B1} (hi : l[i]? = some a) (hj : l[j]? = some b) (hk : a.Key = b.Key) : i = j := by
  rcases Nat.lt_trichotomy i j with hlt | heq | hgt
  · have h9 := AU6 AS7 ha hlt hi hj
    unfold j6 at h9; rw [hk, I7] at h9; cases h9
  · exact heq
  · have h9 := AU6 AS7 ha hgt hj hi
    unfold j6 at h9; rw [hk, I7] at h9; cases h9
theorem CX4 {l : List B1} (ha : adj j6 l = true) {i : Nat} {c : B1} (hc : l[i]? = some c) : d7 l c.Key = some c := by
  unfold d7
  cases hf : l.find? (fun x => x.Key == c.Key) with
  | none => have := List.find?_eq_none.1 hf c (C2 hc); simp at this
  | some d =>
    have h1 := List.find?_some hf;obtain ⟨j, hj⟩ := X9 (Ah0 hf);have := DA6 ha hj hc (by simpa using h1);subst this;rw [hc] at hj; exact hj.symm
theorem Bm7 {l : List B1} (h : adj j6 l = true) (k : Str) : d7 l k = if Ap2 l k = true then l[AC9 l k]? else none := by
  split
  · rename_i hh
    obtain ⟨x, hx, hk⟩ := Ar7.1 hh;rw [hx, ← hk]; exact CX4 h hx
  · rename_i hh
    unfold d7;rw [List.find?_eq_none];intro c hc hk;simp only [j0] at hk;obtain ⟨i, hi⟩ := X9 hc;obtain ⟨h1, h2⟩ := CI6 h k;rcases Nat.lt_trichotomy i (AC9 l k) with hlt | heq | hgt
    · have := h1 i c hlt hi
      rw [hk, I7] at this; cases this
    · subst heq; exact hh (Ar7.2 ⟨c, hi, hk⟩)
    · obtain ⟨y, hy⟩ := Go.AV.B4 (show AC9 l k < l.length by have := (E9.1 hi).1; omega)
      have h3 := h2 y hy;have h4 := AU6 AS7 h hgt hy hi;unfold j6 at h4;rw [hk, h3] at h4; cases h4
def atC (l : List B1) (k : Str) : Int := match l.findIdx? (fun c => c.Key == k) with
  | some i => (i : Int)
  | none => -1
theorem atC_some {l : List B1} {k : Str} {i : Nat} {x : B1} (hx : l[i]? = some x) (hk : x.Key = k) (h : ∀ j y, j < i → l[j]? = some y → y.Key ≠ k) : atC l k = (i : Int) := by
  have hl := (E9.1 hx);have : l.findIdx? (fun c => c.Key == k) = some i := by
    rw [List.findIdx?_eq_some_iff_getElem];refine ⟨hl.1, by rw [hl.2]; simp [hk], fun j hj => ?_⟩;have hl1 := hl.1;simpa using h j _ hj (N6 (show j < l.length by omega))
  unfold atC; rw [this]
theorem atC_none {l : List B1} {k : Str} (h : ∀ (j : Nat) (y : B1), l[j]? = some y → y.Key ≠ k) : atC l k = -1 := by
  have : l.findIdx? (fun c => c.Key == k) = none := by
    rw [List.findIdx?_eq_none_iff];intro x hx;obtain ⟨j, hj⟩ := X9 hx;simpa using h j x hj
  unfold atC; rw [this]
theorem CC0 {l : List B1} {k : Str} (h : atC l k < 0) : d7 l k = none := by
  unfold atC at h
  cases hf : l.findIdx? (fun c => c.Key == k) with
  | some i => rw [hf] at h; simp at h; omega
  | none =>
    rw [List.findIdx?_eq_none_iff] at hf;unfold d7;rw [List.find?_eq_none];intro c hc; simp [hf c hc]
theorem CC1 {l : List B1} {k : Str} (h : ¬ atC l k < 0) : ∃ (p : Nat) (c : B1), atC l k = (p : Int) ∧ l[p]? = some c ∧ d7 l k = some c := by
  cases hf : l.findIdx? (fun c => c.Key == k) with
  | none => exfalso; unfold atC at h; rw [hf] at h; exact h F1
  | some i =>
    have he : atC l k = (i : Int) := by unfold atC; rw [hf]
    rw [List.findIdx?_eq_some_iff_getElem] at hf;obtain ⟨h1, h2, h3⟩ := hf;refine ⟨i, l[i], he, N6 h1, ?_⟩;unfold d7;rw [List.find?_eq_some_iff_getElem];exact ⟨h2, i, h1, rfl, fun j hj => by simpa using h3 j hj⟩
def CT2 (c : B1) : Int := match c.Vers.getLast? with
  | some v => v.Time
  | none => 0
def N8 (l : List B1) (k : Str) : Int := match d7 l k with
  | some c => CT2 c
  | none => 0
def Z8 (c : B1) (t : Int) : Str × Bool := match c.Vers.reverse.find? (fun v => decide (v.Time ≤ t)) with
  | some v => (v.Val, !v.Gone)
  | none => ([], false)
def cellAt (l : List B1) (k : Str) (t : Int) : Str × Bool := match d7 l k with
  | some c => Z8 c t
  | none => ([], false)
def T3 (l : List B1) (t : Int) : List A4 := l.filterMap fun c => if (Z8 c t).2 = true then some ⟨c.Key, (Z8 c t).1, false⟩ else none
def AD0 : List B1 → Str → O3 → List B1
  | [], k, v => [⟨k, [v]⟩]
  | c :: l, k, v => if Op.bytesLess c.Key k = true then c :: AD0 l k v else if c.Key = k then ⟨k, c.Vers ++ [v]⟩ :: l else ⟨k, [v]⟩ :: c :: l
theorem Bg2 {k : Str} {v : O3} : ∀ {l : List B1} {p : Nat}, p ≤ l.length → (∀ i x, i < p → l[i]? = some x → Op.bytesLess x.Key k = true) → (∀ x, l[p]? = some x → Op.bytesLess x.Key k = false) →
    (∀ x, l[p]? = some x → x.Key = k → AD0 l k v = l.set p ⟨k, x.Vers ++ [v]⟩) ∧ ((∀ x, l[p]? = some x → x.Key ≠ k) → AD0 l k v = l.take p ++ ⟨k, [v]⟩ :: l.drop p)
  | [], p, hp, _, _ => by simp at hp; subst hp; exact ⟨fun x hx => by simp at hx, fun _ => rfl⟩
  | c :: l, 0, _, _, h2 => by
    have h := h2 c rfl;unfold AD0;rw [h, C6 F1];refine ⟨fun x hx hk => ?_, fun hn => ?_⟩
    · simp at hx; subst hx; rw [D0 hk]; rfl
    · rw [C6 (hn c rfl)]; rfl
  | c :: l, p + 1, hp, h1, h2 => by
    have h := h1 0 c qz8 rfl;obtain ⟨i1, i2⟩ := Bg2 (k := k) (v := v) (l := l) (p := p) (by simpa using hp) (fun i y hi hy => h1 (i + 1) y qz8 Ay5) (fun y hy => h2 y Ay5);unfold AD0;rw [D0 h];refine ⟨fun x hx hk => ?_, fun hn => ?_⟩
    · rw [i1 x AX1 hk]; rfl
    · rw [i2 fun x hx => hn x AX1]; rfl
def w7 (l : List B1) (x : A4) (t : Int) : List B1 := AD0 l x.Key ⟨t, x.Val, x.Gone⟩
def Z4 (l : List B1) : List A4 → Int → Option (List B1)
  | [], _ => some l
  | x :: w, t => if decide (t ≤ N8 l x.Key) = true then none else Z4 (w7 l x t) w t
def putCells (l : List B1) (w : List A4) (t : Int) : List B1 × Bool := match Z4 l w t with
  | none => ([], false)
  | some out => if (!m5 out) = true then ([], false) else (out, true)
def AH8 (l : List B1) : Prop := adj j6 l = true ∧ ∀ c ∈ l, 1 ≤ c.Vers.length
theorem AU7 {l : List B1} (h : m5 l = true) : AH8 l := ⟨(W6 h).2.1, fun c hc => ((W6 h).2.2 c hc).2.1⟩
def AE2 (l : List B1) (w : List A4) (t : Int) : List B1 × Bool := match Z4 l w t with
  | none => ([], false)
  | some out => (out, Ap1 out)
theorem Ch4 (l : List B1) (w : List A4) (t : Int) : putCells l w t = if (!(AE2 l w t).2) = true then ([], false) else ((AE2 l w t).1, true) := by
  unfold putCells AE2
  cases Z4 l w t with
  | none => rfl
  | some out => simp only; rw [AC6]
def B1.ocs (c : B1) (x : Value) : List AV := [AV.str c.Key, AV.is x]
theorem DA7 (d : B1) : ∀ (l : List B1) (k : Str) (v : O3), ∃ c r, AD0 (d :: l) k v = c :: r ∧ (c.Key = d.Key ∨ c.Key = k) := fun l k v => by
  unfold AD0;split
  · exact ⟨_, _, rfl, Or.inl rfl⟩
  · split
    · exact ⟨_, _, rfl, Or.inr rfl⟩
    · exact ⟨_, _, rfl, Or.inr rfl⟩
theorem Al5 {α : Type} {p : α → α → Bool} {x y : α} {l : List α} : adj p (x :: y :: l) = (p x y && adj p (y :: l)) := rfl
theorem Bm8 (k : Str) (v : O3) : ∀ {l : List B1}, adj j6 l = true → adj j6 (AD0 l k v) = true
  | [], _ => rfl
  | [c], _ => by
    unfold AD0;by_cases h1 : Op.bytesLess c.Key k = true
    · rw [D0 h1]; unfold AD0; simpa [adj, j6] using h1
    · rw [C6 h1]
      by_cases h2 : c.Key = k
      · rw [D0 h2]; rfl
      · rw [C6 h2]
        have := a8 k c.Key;simp [adj, j6]
        simp_all
  | c :: d :: l, h => by
    rw [Al5, E8] at h;have ih := Bm8 k v (l := d :: l) h.2;unfold AD0;by_cases h1 : Op.bytesLess c.Key k = true
    · rw [D0 h1]
      obtain ⟨e, r, he, hk⟩ := DA7 d l k v;rw [he] at ih ⊢;rw [Al5, ih, Bool.and_true];have h3 := h.1;unfold j6 at *;rcases hk with hk | hk
      · rw [hk]; exact h3
      · rw [hk]; exact h1
    · rw [C6 h1]
      by_cases h2 : c.Key = k
      · rw [D0 h2, Al5, h.2, Bool.and_true]
        have h3 := h.1;unfold j6 at *;rw [← h2]; exact h3
      · rw [C6 h2, Al5, Al5, h.1, h.2, Bool.and_true, Bool.and_true]
        have := a8 k c.Key;unfold j6
        simp_all
theorem CI7 (k : Str) (v : O3) : ∀ {l : List B1}, (∀ c ∈ l, 1 ≤ c.Vers.length) → ∀ c ∈ AD0 l k v, 1 ≤ c.Vers.length
  | [], _, c, hc => by unfold AD0 at hc; simp at hc; subst hc; simp
  | d :: l, h, c, hc => by
    have hd := h d Y9;have hl := fun c hc => h c (Q2 _ hc);unfold AD0 at hc;split at hc
    · rcases Q0.1 hc with e | e
      · subst e; exact hd
      · exact CI7 k v hl c e
    · split at hc
      · rcases Q0.1 hc with e | e
        · subst e; simp
        · exact hl c e
      · rcases Q0.1 hc with e | e
        · subst e; simp
        · exact h c e
theorem AS8 {l : List B1} (h : AH8 l) (k : Str) (v : O3) : AH8 (AD0 l k v) := ⟨Bm8 k v h.1, CI7 k v h.2⟩
theorem X0 {α : Type} {f : α → Nat} {x : α} {l : List α} : C7 f (x :: l) = 1 + f x + C7 f l := by unfold C7; simp; omega
theorem Ad2 {α : Type} {f : α → Nat} {l r : List α} : C7 f (l ++ r) = C7 f l + C7 f r := by unfold C7; simp; omega
theorem CI8 (k : Str) (v : O3) : ∀ {l : List B1}, C7 B1.size (AD0 l k v) ≤ C7 B1.size l + (2 + k.length + v.Val.length)
  | [] => by unfold AD0; simp only [X0, B1.size, O3.size]; unfold C7; simp; omega
  | d :: l => by
    have ih := CI8 k v (l := l);unfold AD0;split
    · simp only [X0]; omega
    · split
      · rename_i h; subst h
        simp only [X0, B1.size, Ad2, O3.size]; unfold C7; simp; omega
      · simp only [X0, B1.size, O3.size]; unfold C7; simp; omega
theorem AX8 (l : List B1) (x : A4) (t : Int) : C7 B1.size (w7 l x t) ≤ C7 B1.size l + (2 + x.size) := by
  unfold w7 A4.size;have := CI8 x.Key ⟨t, x.Val, x.Gone⟩ (l := l);simp only at this; omega
theorem CN7 {l : List B1} {k : Str} (h : ∀ c ∈ l, c.Key ≠ k) : N8 l k = 0 := by
  have : d7 l k = none := by
    unfold d7; rw [List.find?_eq_none]; intro c hc; simpa using h c hc
  unfold N8; rw [this]
theorem CX5 {l : List B1} {k : Str} {q : Nat} {c : B1} (ha : adj j6 l = true) (hc : l[q]? = some c) (hk : c.Key = k) (v : O3) : AD0 l k v = l.set q ⟨k, c.Vers ++ [v]⟩ := by
  have hq := (E9.1 hc).1;refine (Bg2 (k := k) (v := v) (l := l) (p := q) qz8 (fun i x hi hx => ?_) (fun x hx => ?_)).1 c hc hk
  · have := AU6 AS7 ha hi hx hc
    unfold j6 at this; rw [hk] at this; exact this
  · rw [hc] at hx; injection hx with hx; subst hx; rw [hk]; exact I7 _
theorem scan_new {l : List B1} {k : Str} {q : Nat} (ha : adj j6 l = true) (hq : q ≤ l.length) (h1 : ∀ j x, q ≤ j → l[j]? = some x → Op.bytesLess k x.Key = true) (h2 : ∀ x, 0 < q → l[q - 1]? = some x → Op.bytesLess x.Key k = true) (v : O3) : (AD0 l k v = l.take q ++ ⟨k, [v]⟩ :: l.drop q) ∧ N8 l k = 0 := by
  have hlo : ∀ i x, i < q → l[i]? = some x → Op.bytesLess x.Key k = true := fun i x hi hx => by
    obtain ⟨y, hy⟩ := Go.AV.B4 (show q - 1 < l.length by omega);have h3 := h2 y qz8 hy;rcases Nat.lt_or_ge i (q - 1) with hlt | hge
    · have := AU6 AS7 ha hlt hx hy
      exact U3 this h3
    · have : i = q - 1 := by omega
      subst this; rw [hx] at hy; injection hy with hy; subst hy; exact h3
  have hhi : ∀ x, l[q]? = some x → Op.bytesLess x.Key k = false := fun x hx => by
    have := h1 q x (K5 _) hx;have h3 := a8 x.Key k;rw [this] at h3; simpa using h3
  refine ⟨(Bg2 (k := k) (v := v) hq hlo hhi).2 fun x hx hk => ?_, CN7 fun c hc hk => ?_⟩
  · have := h1 q x (K5 _) hx
    rw [hk, I7] at this; cases this
  · obtain ⟨i, hi⟩ := X9 hc
    rcases Nat.lt_or_ge i q with hlt | hge
    · have := hlo i c hlt hi
      rw [hk, I7] at this; cases this
    · have := h1 i c hge hi
      rw [hk, I7] at this; cases this
theorem pos_has {l : List B1} {k : Str} (ha : adj j6 l = true) (h : Ap2 l k = true) (v : O3) : ∃ c, l[AC9 l k]? = some c ∧ c.Key = k ∧ AD0 l k v = l.set (AC9 l k) ⟨k, c.Vers ++ [v]⟩ := by
  obtain ⟨c, hc, hk⟩ := Ar7.1 h;exact ⟨c, hc, hk, CX5 ha hc hk v⟩
theorem pos_new {l : List B1} {k : Str} (ha : adj j6 l = true) (h : Ap2 l k = false) (v : O3) : AD0 l k v = l.take (AC9 l k) ++ ⟨k, [v]⟩ :: l.drop (AC9 l k) := by
  obtain ⟨h1, h2⟩ := CI6 ha k;refine (Bg2 (k := k) (v := v) (CB9 l k) h1 h2).2 fun x hx hk => ?_;rw [Ar7.2 ⟨x, hx, hk⟩] at h; cases h
def zV : O3 := ⟨0, [], false⟩
def AB2 (l : List O3) (t : Int) : Option O3 := l.reverse.find? fun v => decide (v.Time ≤ t)
theorem Cs7 {l : List O3} {i : Nat} {x : O3} {t : Int} (hx : l[i]? = some x) : AB2 (l.take (i + 1)) t = if x.Time ≤ t then some x else AB2 (l.take i) t := by
  unfold AB2;rw [T5, hx, Option.toList_some, List.reverse_append];show List.find? _ (x :: (l.take i).reverse) = _
  rw [List.find?_cons];by_cases h : x.Time ≤ t
  · rw [D0 h, i7 h]
  · rw [C6 h, AJ6 h]
theorem AP6 (c : B1) (t : Int) : Z8 c t = (((AB2 c.Vers t).getD zV).Val, (AB2 c.Vers t).isSome && !((AB2 c.Vers t).getD zV).Gone) := by
  unfold Z8 AB2
  cases c.Vers.reverse.find? (fun v => decide (v.Time ≤ t)) <;> rfl
theorem BY9 {l : List B1} {i : Nat} {x : B1} {t : Int} (hx : l[i]? = some x) : T3 (l.take (i + 1)) t = T3 (l.take i) t ++ (if (Z8 x t).2 = true then [⟨x.Key, (Z8 x t).1, false⟩] else []) := by
  unfold T3;rw [T5, hx, Option.toList_some, List.filterMap_append];congr 1
  simp only [AU2, List.filterMap_nil];split <;> simp_all
theorem Ai4 (l : List B1) (t : Int) : (T3 l t).length ≤ l.length := by unfold T3; exact List.length_filterMap_le _ _
theorem Ch5 {l : List B1} {k : Str} {t : Int} (h : d7 l k = none) : cellAt l k t = ([], false) := by unfold cellAt; rw [h]
theorem Ch6 {l : List B1} {k : Str} {t : Int} {c : B1} (h : d7 l k = some c) : cellAt l k t = Z8 c t := by unfold cellAt; rw [h]
def M5.ocs (c : M5) (x : Value × Value) : List AV := [AV.int c.Kind, AV.int c.Txn, AV.int c.Time, AV.int c.Lead, AV.is x.1, AV.is x.2, AV.bool c.Yes]
def AE7.ocs (c : AE7) (x : Value × Value) : List AV := [AV.int c.Ver, AV.is x.1, AV.is x.2]
theorem y5 {α : Type} {f : α → Nat} {c : Nat} : ∀ {l : List α}, (∀ x ∈ l, f x ≤ c) → C7 f l ≤ l.length * (c + 1)
  | [], _ => by simp [C7]
  | x :: l, h => by
    rw [X0];have h1 := h x Y9;have h2 := y5 (l := l) fun y hy => h y (Q2 _ hy);rw [H8, Nat.add_mul]; omega
theorem BZ0 {s : Str} (h : f6 s = true) : s.length ≤ 12 := by
  unfold f6 within at h
  simp only [E8, H1] at h;omega
theorem Bs4 {s : Str} {g : Bool} (h : AG1 s g = true) : s.length ≤ 24 := by
  unfold AG1 Aa1 at h;simp only [E8, H1] at h;omega
theorem Aw1 {l : List B1} (h : m5 l = true) : C7 B1.size l ≤ 9912 := by
  obtain ⟨h1, _, h3⟩ := W6 h;have : ∀ c ∈ l, c.size ≤ 412 := fun c hc => by
    obtain ⟨k1, k2, k3, _, k5⟩ := h3 c hc;have e1 := BZ0 k1;have e2 := y5 (f := O3.size) (c := 24) (l := c.Vers) fun v hv => by
      have := k5 v hv;unfold AN2 at this;simp only [E8] at this;exact Bs4 this.2
    unfold B1.size; omega
  have h4 := y5 this;omega
theorem BZ1 {α : Type} {p : α → α → Bool} (tr : ∀ a b c, p a b = true → p b c = true → p a c = true) : ∀ {l : List α}, adj p l = true ↔ l.Pairwise fun a b => p a b = true
  | [] => by simp [adj]
  | [x] => by simp [adj]
  | x :: y :: l => by
    constructor
    · intro h
      refine n4.2 ⟨Bg0 tr h, ?_⟩;exact (BZ1 tr).1 (BR5 h)
    · intro h
      obtain ⟨h1, h2⟩ := n4.1 h;rw [Al5, h1 y Y9, (BZ1 tr).2 h2]; rfl
def Aw9 (l : List B1) (k : Str) : List O3 := match d7 l k with
  | some c => c.Vers
  | none => []
theorem AD3 (c : B1) (l : List B1) (k : Str) : d7 (c :: l) k = if c.Key = k then some c else d7 l k := by
  unfold d7;rw [List.find?_cons];by_cases h : c.Key = k
  · rw [D0 h, j0.2 h]
  · rw [C6 h, beq_eq_false_iff_ne.2 h]
theorem findC_gt {l : List B1} {k : Str} (h : ∀ c ∈ l, Op.bytesLess k c.Key = true) : d7 l k = none := by
  unfold d7;rw [List.find?_eq_none];intro c hc he;have := h c hc;simp only [j0] at he;rw [he, I7] at this; cases this
theorem CX6 {k : Str} {v : O3} : ∀ {l : List B1}, adj j6 l = true → d7 (AD0 l k v) k = some ⟨k, Aw9 l k ++ [v]⟩
  | [], _ => by unfold AD0; rw [AD3, D0 rfl]; rfl
  | c :: l, ha => by
    have hal := BR5 ha;unfold AD0;by_cases h1 : Op.bytesLess c.Key k = true
    · have hne : c.Key ≠ k := fun e => by rw [e, I7] at h1; cases h1
      rw [D0 h1, AD3, C6 hne, CX6 hal];unfold Aw9; rw [AD3, C6 hne]
    · rw [C6 h1]
      by_cases h2 : c.Key = k
      · rw [D0 h2, AD3, D0 rfl]
        unfold Aw9; rw [AD3, D0 h2]
      · rw [C6 h2, AD3, D0 rfl]
        have hk : Op.bytesLess k c.Key = true := by have := a8 k c.Key; simp_all
        have hn : d7 (c :: l) k = none := findC_gt fun d hd => by
          rcases Q0.1 hd with e | e
          · subst e; exact hk
          · exact U3 hk (Bg0 AS7 ha d e)
        unfold Aw9; rw [hn]; rfl
theorem Ar8 {k k' : Str} {v : O3} (hk : k' ≠ k) : ∀ {l : List B1}, d7 (AD0 l k v) k' = d7 l k'
  | [] => by unfold AD0; rw [AD3, C6 (fun e => hk e.symm)]
  | c :: l => by
    unfold AD0;split
    · rw [AD3, AD3, Ar8 hk]
    · split
      · rename_i h2
        rw [AD3, AD3, C6 (fun e => hk e.symm), C6 (fun e => hk (e.symm.trans h2))]
      · rw [AD3, C6 (fun e => hk e.symm)]
theorem BR8 {t : Int} : ∀ {w : List A4} {l out : List B1}, (w.map A4.Key).Nodup → adj j6 l = true → Z4 l w t = some out →
    (∀ x ∈ w, d7 out x.Key = some ⟨x.Key, Aw9 l x.Key ++ [⟨t, x.Val, x.Gone⟩]⟩) ∧ ∀ k, k ∉ w.map A4.Key → d7 out k = d7 l k
  | [], l, out, _, _, h => by simp [Z4] at h; subst h; simp
  | y :: w, l, out, hn, ha, h => by
    unfold Z4 at h;split at h
    · cases h
    · rw [U8, List.nodup_cons] at hn
      obtain ⟨i1, i2⟩ := BR8 hn.2 (Bm8 y.Key ⟨t, y.Val, y.Gone⟩ ha) h;refine ⟨fun x hx => ?_, fun k hk => ?_⟩
      · rcases Q0.1 hx with e | e
        · subst e
          rw [i2 _ hn.1]; exact CX6 ha
        · rw [i1 x e]
          have hne : x.Key ≠ y.Key := fun e2 => hn.1 (e2 ▸ List.mem_map_of_mem e);have : Aw9 (w7 l y t) x.Key = Aw9 l x.Key := by
            unfold Aw9 w7; rw [Ar8 hne]
          unfold w7 at this;rw [this]
      · simp only [U8, Q0, not_or] at hk
        rw [i2 k hk.2]; exact Ar8 hk.1
theorem CX7 {w : List A4} (h : j5 w = true) : (w.map A4.Key).Nodup := by
  unfold j5 g7 Q3 at h;simp only [E8] at h;have ha := h.1.2.2;rw [List.Nodup];refine ((BZ1 (p := fun a b => Op.bytesLess a b) (fun a b c h k => U3 h k)).1 ha).imp fun {a b} hab e => ?_;rw [e, I7] at hab; cases hab
def AT4 (h : D1) : M5 := ⟨1, h.Txn, h.Time, h.Lead, h.Reads, h.Writes, false⟩
def hOf (r : M5) : D1 := ⟨r.Txn, r.Time, r.Lead, r.Reads, r.Writes⟩
def AN7 (l : List A4) (k : Str) : Bool := l.any fun w => w.Key == k
def BE9 (l : List Str) (k : Str) : Bool := l.any fun x => k == x
theorem AX9 {l : List A4} {k : Str} : AN7 l k = true ↔ ∃ w ∈ l, w.Key = k := by unfold AN7; simp
theorem Ar9 {l : List Str} {k : Str} : BE9 l k = true ↔ k ∈ l := by unfold BE9; simp
def BO4 (ws : List A4) (rs : List Str) (os : List A4) : Bool := ws.any fun w => AN7 os w.Key || BE9 rs w.Key
def Ap3 (h k : D1) : Bool := BO4 h.Writes k.Reads k.Writes || BO4 k.Writes h.Reads h.Writes
def apart (h : D1) (rs : List Str) (ws : List A4) : Bool := rs.all (fun k => !AN7 h.Writes k) && ws.all (fun w => !(AN7 h.Writes w.Key || BE9 h.Reads w.Key))
theorem Aw2 {h : D1} {rs : List Str} {ws : List A4} : apart h rs ws = true ↔ (∀ k ∈ rs, ∀ w ∈ h.Writes, w.Key ≠ k) ∧ (∀ w ∈ ws, (∀ v ∈ h.Writes, v.Key ≠ w.Key) ∧ w.Key ∉ h.Reads) := by
  unfold apart;simp only [E8, l5, i6, r5];constructor
  · rintro ⟨h1, h2⟩
    refine ⟨fun k hk w hw e => ?_, fun w hw => ⟨fun v hv e => ?_, fun hr => ?_⟩⟩
    · have := h1 k hk; rw [AX9.2 ⟨w, hw, e⟩] at this; cases this
    · have := (h2 w hw).1; rw [AX9.2 ⟨v, hv, e⟩] at this; cases this
    · have := (h2 w hw).2; rw [Ar9.2 hr] at this; cases this
  · rintro ⟨h1, h2⟩
    refine ⟨fun k hk => ?_, fun w hw => ⟨?_, ?_⟩⟩
    · cases e : AN7 h.Writes k with
      | false => rfl
      | true => obtain ⟨v, hv, ev⟩ := AX9.1 e; exact (h1 k hk v hv ev).elim
    · cases e : AN7 h.Writes w.Key with
      | false => rfl
      | true => obtain ⟨v, hv, ev⟩ := AX9.1 e; exact ((h2 w hw).1 v hv ev).elim
    · cases e : BE9 h.Reads w.Key with
      | false => rfl
      | true => exact ((h2 w hw).2 (Ar9.1 e)).elim
theorem BK4 (h g : D1) : Ap3 h g = !apart g h.Reads h.Writes := by
  cases ha : apart g h.Reads h.Writes with
  | true =>
    obtain ⟨h1, h2⟩ := Aw2.1 ha;refine Bool.eq_false_iff.2 fun hc => ?_;unfold Ap3 BO4 at hc;simp only [AA9, List.any_eq_true] at hc;rcases hc with ⟨w, hw, e | e⟩ | ⟨w, hw, e | e⟩
    · obtain ⟨v, hv, ev⟩ := AX9.1 e; exact (h2 w hw).1 v hv ev
    · exact (h2 w hw).2 (Ar9.1 e)
    · obtain ⟨v, hv, ev⟩ := AX9.1 e; exact (h2 v hv).1 w hw ev.symm
    · exact h1 _ (Ar9.1 e) w hw rfl
  | false =>
    rw [Bool.not_false]
    cases hc : Ap3 h g with
    | true => rfl
    | false =>
      rw [← ha, Aw2.2];unfold Ap3 BO4 at hc;simp only [r5, List.any_eq_false, AA9, not_or] at hc;refine ⟨fun k hk w hw e => (hc.2 w hw).2 (Ar9.2 (e ▸ hk)), fun w hw => ⟨fun v hv e => (hc.1 w hw).1 (AX9.2 ⟨v, hv, e⟩), fun hr => (hc.1 w hw).2 (Ar9.2 hr)⟩⟩
theorem BZ2 {h : D1} {rs : List Str} {ws : List A4} {t m l : Int} (ha : apart h rs ws = true) : apart ⟨t, m, l, rs, ws⟩ h.Reads h.Writes = true := by
  obtain ⟨h1, h2⟩ := Aw2.1 ha;exact Aw2.2 ⟨fun k hk w hw e => (h2 w hw).2 (e ▸ hk), fun w hw => ⟨fun v hv e => (h2 v hv).1 w hw e.symm, fun hr => h1 _ hr w hw rfl⟩⟩
def Ab2 (cells : List B1) (k : Str) : Bool := match d7 cells k with
  | some c => decide (16 ≤ c.Vers.length)
  | none => false
def hWs (l : List D1) : List A4 := (l.map D1.Writes).flatten
def Ai8 (cells : List B1) (ws : List A4) : List Str := Ah5 (n2 cells ++ Q3 ws)
def room (cells : List B1) (ws : List A4) : Bool := ws.all (fun w => !Ab2 cells w.Key) && decide ((Ai8 cells ws).length ≤ 24)
theorem BR9 (a b : List D1) : hWs (a ++ b) = hWs a ++ hWs b := by unfold hWs; simp
theorem As0 (a : D1) (b : List D1) : hWs (a :: b) = a.Writes ++ hWs b := by unfold hWs; simp
theorem As1 {l : List D1} {w : A4} : w ∈ hWs l ↔ ∃ h ∈ l, w ∈ h.Writes := by
  unfold hWs;simp only [List.mem_flatten, Y0];constructor
  · rintro ⟨_, ⟨a, ha, rfl⟩, hw⟩; exact ⟨a, ha, hw⟩
  · rintro ⟨h, hh, hw⟩; exact ⟨_, ⟨h, hh, rfl⟩, hw⟩
theorem Bs5 {cells : List B1} {ws : List A4} {k : Str} : k ∈ Ai8 cells ws ↔ k ∈ n2 cells ∨ k ∈ Q3 ws := by
  unfold Ai8; rw [BH4, o5]
theorem Cs8 {l : List Str} (h : AN6 l) : l.Nodup := h.imp fun {a b} hab e => by rw [e, I7] at hab; cases hab
theorem Bm9 {α : Type} [BEq α] [LawfulBEq α] : ∀ {a b : List α}, a.Nodup → (∀ x ∈ a, x ∈ b) → a.length ≤ b.length
  | [], _, _, _ => E2 _
  | x :: a, b, ha, h => by
    obtain ⟨h1, h2⟩ := List.nodup_cons.1 ha;have hx := h x Y9;have ih := Bm9 (b := b.erase x) h2 fun y hy => (List.mem_erase_of_ne (fun e : y = x => h1 (by rw [← e]; exact hy))).2 (h y (Q2 _ hy));rw [List.length_erase_of_mem hx] at ih;have := List.length_pos_of_mem hx;rw [H8]; omega
theorem srtS_le {a b : List Str} (ha : AN6 a) (h : ∀ x ∈ a, x ∈ b) : a.length ≤ b.length := Bm9 (Cs8 ha) h
theorem BZ3 {c1 c2 : List B1} {w1 w2 : List A4} (h : ∀ k, k ∈ n2 c1 ∨ k ∈ Q3 w1 → k ∈ n2 c2 ∨ k ∈ Q3 w2) : (Ai8 c1 w1).length ≤ (Ai8 c2 w2).length :=
  srtS_le (CI3 _) fun k hk => Bs5.2 (h k (Bs5.1 hk))
theorem CI9 {cells : List B1} {a b : List A4} (h : ∀ w, w ∈ a ↔ w ∈ b) : room cells a = room cells b := by
  unfold room;have h1 : a.all (fun w => !Ab2 cells w.Key) = b.all (fun w => !Ab2 cells w.Key) := by
    rw [AO5, l5, l5];exact ⟨fun k w hw => k w ((h w).2 hw), fun k w hw => k w ((h w).1 hw)⟩
  have hk : ∀ k, k ∈ Q3 a ↔ k ∈ Q3 b := fun k => by unfold Q3; simp only [Y0]; exact ⟨fun ⟨w, hw, e⟩ => ⟨w, (h w).1 hw, e⟩, fun ⟨w, hw, e⟩ => ⟨w, (h w).2 hw, e⟩⟩
  have h2 : (Ai8 cells a).length = (Ai8 cells b).length := Nat.le_antisymm (BZ3 fun k hk2 => by rw [hk] at hk2; exact hk2) (BZ3 fun k hk2 => by rw [← hk] at hk2; exact hk2);rw [h1, h2]
def BL6 (n : Nat) (p : Nat → Bool) : Bool := (List.range n).all p
theorem BD5 {n : Nat} {p : Nat → Bool} : BL6 n p = true ↔ ∀ i, i < n → p i = true := by unfold BL6; simp
theorem An1 {n i : Nat} {p : Nat → Bool} (hi : i < n) (h : p i = false) : BL6 n p = false := by
  cases e : BL6 n p with
  | false => rfl
  | true => rw [BD5.1 e i hi] at h; cases h
def AP1 (l : List D1) (n : Int) : Bool := l.any fun h => h.Txn == n
def AM2 (l : List N1) (n : Int) : Bool := l.any fun t => t.Txn == n
def By7 (l : List D1) (i : Nat) (n : Int) : Bool := match l[i - 1]? with
  | some g => !(decide (0 < i) && decide (n ≤ g.Txn))
  | none => true
def By8 (l : List N1) (i : Nat) (n : Int) : Bool := match l[i - 1]? with
  | some g => !(decide (0 < i) && decide (n ≤ g.Txn))
  | none => true
def Ai9 (s : D9) (i : Nat) : Bool := match s.Held[i]? with
  | none => true
  | some h => (((S1 (AT4 h) && !decide (s.Floor < h.Time)) && By7 s.Held i h.Txn) && (s.Held.take i).all fun g => apart g h.Reads h.Writes) && h.Writes.all fun w => decide (N8 s.Cells w.Key < h.Time)
def Aa3 (s : D9) : Bool := BL6 s.Held.length (Ai9 s) && (decide (s.Held.length ≤ 12) && room s.Cells (hWs s.Held))
def BB0 (s : D9) (t : N1) : Bool := if t.Yes = true then within t.Time 1 s.Floor else t.Time == 0
def Ap4 (s : D9) (i : Nat) : Bool := match s.Told[i]? with
  | none => true
  | some t => ((AL1 t.Txn && BB0 s t) && By8 s.Told i t.Txn) && !AP1 s.Held t.Txn
def j8 (s : D9) : Bool := ((((isTrue s.Floor && m5 s.Cells) && Aa3 s) && decide (s.Told.length ≤ 60)) && s.Cells.all fun c => decide (N8 s.Cells c.Key ≤ s.Floor)) && BL6 s.Told.length (Ap4 s)
structure GS (s : D9) : Prop where
  floor : 0 ≤ s.Floor ∧ s.Floor ≤ 100000
  cells : m5 s.Cells = true
  good : ∀ h ∈ s.Held, S1 (AT4 h) = true ∧ h.Time ≤ s.Floor ∧ ∀ w ∈ h.Writes, N8 s.Cells w.Key < h.Time
  hsort : s.Held.Pairwise fun a b => a.Txn < b.Txn
  apart : s.Held.Pairwise fun a b => apart a b.Reads b.Writes = true
  hlen : s.Held.length ≤ 12
  room : room s.Cells (hWs s.Held) = true
  tlen : s.Told.length ≤ 60
  last : ∀ c ∈ s.Cells, N8 s.Cells c.Key ≤ s.Floor
  told : ∀ t ∈ s.Told, AL1 t.Txn = true ∧ BB0 s t = true ∧ AP1 s.Held t.Txn = false
  tsort : s.Told.Pairwise fun a b => a.Txn < b.Txn
theorem Bs6 {α : Type} {f : α → Int} {l : List α} (h : ∀ (i : Nat) (x y : α), 0 < i → l[i]? = some x → l[i - 1]? = some y → f y < f x) : l.Pairwise fun a b => f a < f b := by
  have key : ∀ (j i : Nat) (x y : α), i < j → l[j]? = some x → l[i]? = some y → f y < f x := by
    intro j;induction j with
    | zero => intro i x y hi; omega
    | succ j ih =>
      intro i x y hi hx hy;have hj := (E9.1 hx).1;have hz := N6 (show j < l.length by omega);have h1 := h (j + 1) x _ qz8 hx hz;rcases Nat.lt_or_ge i j with h2 | h2
      · have := ih i _ y h2 hz hy; omega
      · have : i = j := by omega
        subst this; rw [hz] at hy; injection hy with hy; subst hy; exact h1
  rw [List.pairwise_iff_getElem];intro i j hi hj hij;exact key j i _ _ hij (N6 hj) (N6 hi)
theorem CJ0 {l : List D1} {i : Nat} {n : Int} : By7 l i n = true ↔ ∀ g, 0 < i → l[i - 1]? = some g → g.Txn < n := by
  unfold By7
  cases h : l[i - 1]? with
  | none => simp
  | some g =>
    simp only [i6, Bool.and_eq_false_iff, w5];exact ⟨fun k y h0 e => by injection e with e; subst e; omega, fun k => if h0 : 0 < i then .inr (by have := k g h0 rfl; omega) else .inl h0⟩
theorem CJ1 {l : List N1} {i : Nat} {n : Int} : By8 l i n = true ↔ ∀ g, 0 < i → l[i - 1]? = some g → g.Txn < n := by
  unfold By8
  cases h : l[i - 1]? with
  | none => simp
  | some g =>
    simp only [i6, Bool.and_eq_false_iff, w5];exact ⟨fun k y h0 e => by injection e with e; subst e; omega, fun k => if h0 : 0 < i then .inr (by have := k g h0 rfl; omega) else .inl h0⟩
theorem CJ2 {α : Type} {p : α → α → Prop} {l : List α} : l.Pairwise p ↔ ∀ (i : Nat) (x : α), l[i]? = some x → ∀ y ∈ l.take i, p y x := by
  rw [List.pairwise_iff_getElem];constructor
  · intro h i x hx y hy
    obtain ⟨j, hj⟩ := X9 hy;have hi := (E9.1 hx);have hjl := (E9.1 hj).1;rw [F4] at hjl;rw [AA8 qz8] at hj;have hj2 := (E9.1 hj);obtain ⟨hi1, hi2⟩ := hi;obtain ⟨hj3, hj4⟩ := hj2;have := h j i hj3 hi1 qz8;rw [hi2, hj4] at this; exact this
  · intro h i j hi hj hij
    refine h j _ (N6 hj) _ (C2 (i := i) ?_);rw [AA8 hij]; exact N6 hi
theorem AH0 {s : D9} : j8 s = true ↔ GS s := by
  unfold j8 Aa3;simp only [E8, H1, BD5, l5];constructor
  · rintro ⟨⟨⟨⟨⟨h1, h2⟩, h3, h4, h5⟩, h6⟩, h7⟩, h8⟩
    have hh : ∀ (i : Nat) (h : D1), s.Held[i]? = some h → S1 (AT4 h) = true ∧ h.Time ≤ s.Floor ∧ (∀ g, 0 < i → s.Held[i - 1]? = some g → g.Txn < h.Txn) ∧ (∀ g ∈ s.Held.take i, apart g h.Reads h.Writes = true) ∧ ∀ w ∈ h.Writes, N8 s.Cells w.Key < h.Time := fun i h hi => by
      have := h3 i (E9.1 hi).1;unfold Ai9 at this;rw [hi] at this;simp only [E8, l5, H1, CJ0, i6, w5] at this;exact ⟨this.1.1.1.1, by omega, this.1.1.2, this.1.2, this.2⟩
    have ht : ∀ (i : Nat) (t : N1), s.Told[i]? = some t → AL1 t.Txn = true ∧ BB0 s t = true ∧ (∀ g, 0 < i → s.Told[i - 1]? = some g → g.Txn < t.Txn) ∧ AP1 s.Held t.Txn = false := fun i t hi => by
      have := h8 i (E9.1 hi).1;unfold Ap4 at this;rw [hi] at this;simp only [E8, CJ1, i6] at this;exact ⟨this.1.1.1, this.1.1.2, this.1.2, this.2⟩
    unfold isTrue within at h1
    simp only [E8, H1] at h1;refine ⟨h1, h2, fun h hm => ?_, Bs6 fun i x y h0 hx hy => (hh i x hx).2.2.1 y h0 hy, CJ2.2 fun i x hx => (hh i x hx).2.2.2.1, h4, h5, h6, h7, fun t hm => ?_, Bs6 fun i x y h0 hx hy => (ht i x hx).2.2.1 y h0 hy⟩
    · obtain ⟨i, hi⟩ := X9 hm
      have := hh i h hi;exact ⟨this.1, this.2.1, this.2.2.2.2⟩
    · obtain ⟨i, hi⟩ := X9 hm
      have := ht i t hi;exact ⟨this.1, this.2.1, this.2.2.2⟩
  · intro g
    have hch : ∀ {α : Type} {f : α → Int} {l : List α}, (l.Pairwise fun a b => f a < f b) → ∀ (i : Nat) (x y : α), 0 < i → l[i]? = some x → l[i - 1]? = some y → f y < f x := fun {α f l} hp i x y h0 hx hy => by
      obtain ⟨hx1, hx2⟩ := E9.1 hx;obtain ⟨hy1, hy2⟩ := E9.1 hy;have := List.pairwise_iff_getElem.1 hp (i - 1) i hy1 hx1 qz8;rw [hx2, hy2] at this; exact this
    refine ⟨⟨⟨⟨⟨?_, g.cells⟩, fun i hi => ?_, g.hlen, g.room⟩, g.tlen⟩, g.last⟩, fun i hi => ?_⟩
    · unfold isTrue within; simp [g.floor]
    · unfold Ai9
      rw [N6 hi];have hx := N6 hi;obtain ⟨g1, g2, g3⟩ := g.good _ (C2 hx);simp only [E8, l5, H1, CJ0, i6, w5];exact ⟨⟨⟨⟨g1, by omega⟩, fun y h0 hy => hch g.hsort i _ y h0 hx hy⟩, fun y hy => CJ2.1 g.apart i _ hx y hy⟩, g3⟩
    · unfold Ap4
      rw [N6 hi];have hx := N6 hi;obtain ⟨g1, g2, g3⟩ := g.told _ (C2 hx);simp only [E8, CJ1, i6];exact ⟨⟨⟨g1, g2⟩, fun y h0 hy => hch g.tsort i _ y h0 hx hy⟩, g3⟩
def AT5 (h : D1) : List D1 → List D1
  | [] => [h]
  | g :: l => if h.Txn < g.Txn then h :: g :: l else g :: AT5 h l
def AP2 (h : N1) : List N1 → List N1
  | [] => [h]
  | g :: l => if h.Txn < g.Txn then h :: g :: l else g :: AP2 h l
def o7 (l : List D1) (n : Int) : List D1 := l.filter fun h => h.Txn != n
def AB3 (l : List D1) (n : Int) : Option D1 := l.find? fun h => h.Txn == n
def BV2 (l : List N1) (n : Int) : Option N1 := l.find? fun t => t.Txn == n
def fits (s : D9) (rs : List Str) (ws : List A4) : Bool := (s.Held.all fun h => apart h rs ws) && (decide (s.Held.length < 12) && room s.Cells (hWs s.Held ++ ws))
def AI2 (s : D9) (r : M5) (fl : Int) (q : List B1) : D9 := ⟨fl, q, o7 s.Held r.Txn, AP2 ⟨r.Txn, r.Yes, r.Time⟩ s.Told⟩
def U4 (s : D9) (r : M5) : D9 × Bool :=
  if r.Kind = 4 then (⟨r.Time, s.Cells, s.Held, s.Told⟩, decide (s.Floor < r.Time))
  else if AM2 s.Told r.Txn = true then (s, false)
  else if r.Kind = 1 then (⟨r.Time, s.Cells, AT5 (hOf r) s.Held, s.Told⟩, (!AP1 s.Held r.Txn && decide (s.Floor < r.Time)) && fits s r.Reads r.Writes)
  else if r.Yes = true then (match AB3 s.Held r.Txn with
    | none => (s, false)
    | some h => if r.Time < h.Time then (s, false) else if (AE2 s.Cells h.Writes r.Time).2 = true then (AI2 s r (if s.Floor < r.Time then r.Time else s.Floor) (AE2 s.Cells h.Writes r.Time).1, true) else (s, false))
  else (AI2 s r s.Floor s.Cells, true)
def T8 : D9 := ⟨0, [], [], []⟩
def AD8 (s : D9) (r : M5) : D9 := if (U4 s r).2 = true then (U4 s r).1 else s
def V9 (s : D9) (l : List M5) : D9 := l.foldl AD8 s
def AW0 (s : D9) : List M5 → List Bool
  | [] => []
  | r :: l => (U4 s r).2 :: AW0 (AD8 s r) l
theorem Aw3 (h : D1) : ∀ l, (AT5 h l).Perm (h :: l)
  | [] => List.Perm.refl _
  | g :: l => by
    unfold AT5;split
    · exact List.Perm.refl _
    · exact (List.Perm.cons g (Aw3 h l)).trans (List.Perm.swap h g l)
theorem BZ4 (h : N1) : ∀ l, (AP2 h l).Perm (h :: l)
  | [] => List.Perm.refl _
  | g :: l => by
    unfold AP2;split
    · exact List.Perm.refl _
    · exact (List.Perm.cons g (BZ4 h l)).trans (List.Perm.swap h g l)
theorem Ad3 {h x : D1} {l : List D1} : x ∈ AT5 h l ↔ x = h ∨ x ∈ l := by rw [(Aw3 h l).mem_iff, Q0]
theorem CX8 {h x : N1} {l : List N1} : x ∈ AP2 h l ↔ x = h ∨ x ∈ l := by rw [(BZ4 h l).mem_iff, Q0]
theorem BZ5 {h : D1} : ∀ {l : List D1}, (l.Pairwise fun a b => a.Txn < b.Txn) → (∀ g ∈ l, g.Txn ≠ h.Txn) → (AT5 h l).Pairwise fun a b => a.Txn < b.Txn
  | [], _, _ => by unfold AT5; simp
  | g :: l, hs, hn => by
    obtain ⟨h1, h2⟩ := n4.1 hs;have hg := hn g Y9;unfold AT5;split
    · rename_i hlt
      refine n4.2 ⟨fun y hy => ?_, hs⟩;rcases Q0.1 hy with rfl | hy
      · exact hlt
      · have := h1 y hy; omega
    · refine n4.2 ⟨fun y hy => ?_, BZ5 h2 fun y hy => hn y (Q2 _ hy)⟩
      rcases Ad3.1 hy with rfl | hy
      · omega
      · exact h1 y hy
theorem BZ6 {h : N1} : ∀ {l : List N1}, (l.Pairwise fun a b => a.Txn < b.Txn) → (∀ g ∈ l, g.Txn ≠ h.Txn) → (AP2 h l).Pairwise fun a b => a.Txn < b.Txn
  | [], _, _ => by unfold AP2; simp
  | g :: l, hs, hn => by
    obtain ⟨h1, h2⟩ := n4.1 hs;have hg := hn g Y9;unfold AP2;split
    · rename_i hlt
      refine n4.2 ⟨fun y hy => ?_, hs⟩;rcases Q0.1 hy with rfl | hy
      · exact hlt
      · have := h1 y hy; omega
    · refine n4.2 ⟨fun y hy => ?_, BZ6 h2 fun y hy => hn y (Q2 _ hy)⟩
      rcases CX8.1 hy with rfl | hy
      · omega
      · exact h1 y hy
theorem hasH_iff {l : List D1} {n : Int} : AP1 l n = true ↔ ∃ h ∈ l, h.Txn = n := by unfold AP1; simp
theorem AS9 {l : List D1} {n : Int} : AP1 l n = false ↔ ∀ h ∈ l, h.Txn ≠ n := by unfold AP1; simp
theorem hasT_iff {l : List N1} {n : Int} : AM2 l n = true ↔ ∃ h ∈ l, h.Txn = n := by unfold AM2; simp
theorem BS0 {l : List N1} {n : Int} : AM2 l n = false ↔ ∀ h ∈ l, h.Txn ≠ n := by unfold AM2; simp
theorem AW8 {l : List D1} {n : Int} {h : D1} : h ∈ o7 l n ↔ h ∈ l ∧ h.Txn ≠ n := by unfold o7; simp
theorem Bs7 : ∀ {l : List N1} {a : Int}, (l.Pairwise fun a b => a.Txn < b.Txn) → (∀ t ∈ l, a < t.Txn ∧ t.Txn ≤ 60) → l.length ≤ (60 - a).toNat
  | [], _, _, _ => E2 _
  | t :: l, a, hs, h => by
    obtain ⟨h1, h2⟩ := n4.1 hs;have ht := h t Y9;have := Bs7 (a := t.Txn) h2 fun u hu => ⟨h1 u hu, (h u (Q2 _ hu)).2⟩;rw [H8]; omega
theorem Cs9 {n : Int} : AL1 n = true ↔ 1 ≤ n ∧ n ≤ 60 := by unfold AL1 within; simp
theorem BM4 {a b : List B1} {k : Str} (h : d7 a k = d7 b k) : N8 a k = N8 b k := by unfold N8; rw [h]
theorem Ch7 {a b : List B1} {k : Str} (h : d7 a k = d7 b k) : Ab2 a k = Ab2 b k := by unfold Ab2; rw [h]
theorem CJ3 {l : List B1} {k : Str} {c : B1} (h : d7 l k = some c) : c ∈ l ∧ c.Key = k := by
  unfold d7 at h;exact ⟨Ah0 h, by simpa using List.find?_some h⟩
theorem Co6 {s : D9} (g : GS s) (k : Str) : N8 s.Cells k ≤ s.Floor := by
  have h0 := g.floor.1
  cases h : d7 s.Cells k with
  | none => unfold N8; rw [h]; exact h0
  | some c =>
    obtain ⟨h1, h2⟩ := CJ3 h;rw [← h2]; exact g.last c h1
theorem BS1 {s s' : D9} {t : N1} (h : s.Floor ≤ s'.Floor) (ht : BB0 s t = true) : BB0 s' t = true := by
  unfold BB0 within at *
  split
  · rename_i hy; rw [D0 hy] at ht; simp only [E8, H1] at *; omega
  · rename_i hy; rw [C6 hy] at ht; exact ht
theorem gs_floor {s : D9} (g : GS s) {t : Int} (h1 : s.Floor ≤ t) (h2 : t ≤ 100000) : GS ⟨t, s.Cells, s.Held, s.Told⟩ := by
  have h0 := g.floor.1;exact ⟨⟨by dsimp only; omega, h2⟩, g.cells, fun h hm => ⟨(g.good h hm).1, by have := (g.good h hm).2.1; dsimp only; omega, (g.good h hm).2.2⟩, g.hsort, g.apart, g.hlen, g.room, g.tlen, fun c hc => by have := g.last c hc; dsimp only; omega, fun u hu => ⟨(g.told u hu).1, BS1 h1 (g.told u hu).2.1, (g.told u hu).2.2⟩, g.tsort⟩
theorem DA8 {r : M5} (h : S1 r = true) (hk : r.Kind = 1) : r.Yes = false := by
  unfold S1 at h;rw [D0 hk] at h;unfold Av3 at h;simp only [E8, i6] at h;exact h.2
theorem CX9 {r : M5} (h : S1 r = true) : 0 ≤ r.Time ∧ r.Time ≤ 100000 := (goodR h).time
theorem CY0 {r : M5} (h : S1 r = true) (hk : r.Kind = 1) : AT4 (hOf r) = r := by
  have := DA8 h hk;unfold AT4 hOf
  cases r; simp_all
theorem hWs_ins {h : D1} {l : List D1} {w : A4} : w ∈ hWs (AT5 h l) ↔ w ∈ hWs l ++ h.Writes := by
  rw [As1, o5, As1];constructor
  · rintro ⟨x, hx, hw⟩
    rcases Ad3.1 hx with rfl | hx
    · exact Or.inr hw
    · exact Or.inl ⟨x, hx, hw⟩
  · rintro (⟨x, hx, hw⟩ | hw)
    · exact ⟨x, Ad3.2 (Or.inr hx), hw⟩
    · exact ⟨h, Ad3.2 (Or.inl rfl), hw⟩
theorem fits_iff {s : D9} {rs : List Str} {ws : List A4} : fits s rs ws = true ↔ (∀ h ∈ s.Held, apart h rs ws = true) ∧ s.Held.length < 12 ∧ room s.Cells (hWs s.Held ++ ws) = true := by
  unfold fits; simp only [E8, l5, H1]
theorem Ct0 {s : D9} (g : GS s) {r : M5} (hr : S1 r = true) (hk : r.Kind = 1) (hh : AP1 s.Held r.Txn = false) (hT : AM2 s.Told r.Txn = false) (ht : s.Floor < r.Time) (hf : fits s r.Reads r.Writes = true) :
    GS ⟨r.Time, s.Cells, AT5 (hOf r) s.Held, s.Told⟩ := by
  obtain ⟨f1, f2, f3⟩ := fits_iff.1 hf;have htm := CX9 hr;have hnh := AS9.1 hh;have hnt := BS0.1 hT;refine ⟨⟨htm.1, htm.2⟩, g.cells, fun h hm => ?_, BZ5 g.hsort hnh, ?_, ?_, ?_, g.tlen, fun c hc => ?_, fun t hm => ⟨(g.told t hm).1, BS1 (by dsimp only; omega) (g.told t hm).2.1, ?_⟩, g.tsort⟩
  · rcases Ad3.1 hm with rfl | hm
    · refine ⟨by rw [CY0 hr hk]; exact hr, Int.le_refl _, fun w hw => ?_⟩
      have := Co6 g w.Key;show N8 s.Cells w.Key < r.Time
      omega
    · obtain ⟨g1, g2, g3⟩ := g.good h hm
      exact ⟨g1, by dsimp only; omega, g3⟩
  · refine ((Aw3 (hOf r) s.Held).pairwise_iff (fun {x y} hxy => BZ2 hxy)).2 (n4.2 ⟨fun y hy => BZ2 (f1 y hy), g.apart⟩)
  · rw [(Aw3 _ _).length_eq, H8]; omega
  · rw [CI9 fun w => hWs_ins]; exact f3
  · have := g.last c hc; dsimp only; omega
  · refine AS9.2 fun h hm e => ?_
    rcases Ad3.1 hm with rfl | hm
    · exact hnt t ‹_› e.symm
    · exact AS9.1 (g.told t ‹_›).2.2 h hm e
theorem Bs8 {s : D9} (g : GS s) {n fl : Int} {q : List B1} {t : N1} (hn : t.Txn = n) (hx : AL1 n = true) (hT : AM2 s.Told n = false) (hfl : s.Floor ≤ fl ∧ fl ≤ 100000) (hq : m5 q = true) (hlast : ∀ c ∈ q, N8 q c.Key ≤ fl)
    (hkeep : ∀ k ∈ o7 s.Held n, ∀ w ∈ k.Writes, d7 q w.Key = d7 s.Cells w.Key) (hkeys : ∀ k ∈ n2 q, k ∈ n2 s.Cells ∨ k ∈ Q3 (hWs s.Held)) (htf : (if t.Yes = true then within t.Time 1 fl else t.Time == 0) = true) : GS ⟨fl, q, o7 s.Held n, AP2 t s.Told⟩ := by
  have h0 := g.floor.1;have hnt := BS0.1 hT;have hsub : (o7 s.Held n).Sublist s.Held := List.filter_sublist;have htl : ∀ u ∈ AP2 t s.Told, AL1 u.Txn = true ∧ BB0 ⟨fl, q, o7 s.Held n, AP2 t s.Told⟩ u = true ∧ AP1 (o7 s.Held n) u.Txn = false := fun u hu => by
    rcases CX8.1 hu with rfl | hu
    · exact ⟨hn ▸ hx, htf, AS9.2 fun h hm e => (AW8.1 hm).2 (e.trans hn)⟩
    · obtain ⟨a, b, c⟩ := g.told u hu
      exact ⟨a, BS1 hfl.1 b, AS9.2 fun h hm e => AS9.1 c h (AW8.1 hm).1 e⟩
  have hts := BZ6 (h := t) g.tsort fun u hu => by rw [hn]; exact hnt u hu
  refine ⟨⟨by dsimp only; omega, hfl.2⟩, hq, fun h hm => ?_, g.hsort.sublist hsub, g.apart.sublist hsub, L8 hsub.length_le g.hlen, ?_, ?_, hlast, htl, hts⟩
  · obtain ⟨g1, g2, g3⟩ := g.good h (AW8.1 hm).1
    exact ⟨g1, by dsimp only; omega, fun w hw => by rw [show N8 q w.Key = _ from BM4 (hkeep h hm w hw)]; exact g3 w hw⟩
  · have hr := g.room
    unfold room at hr ⊢;simp only [E8, l5, H1] at hr ⊢;refine ⟨fun w hw => ?_, L8 (BZ3 fun k hk => ?_) hr.2⟩
    · obtain ⟨h, hm, hwh⟩ := As1.1 hw
      rw [Ch7 (hkeep h hm w hwh)];exact hr.1 w (As1.2 ⟨h, (AW8.1 hm).1, hwh⟩)
    · rcases hk with hk | hk
      · exact hkeys k hk
      · refine Or.inr ?_
        unfold Q3 at hk ⊢;obtain ⟨w, hw, e⟩ := Y0.1 hk;obtain ⟨h, hm, hwh⟩ := As1.1 hw;exact Y0.2 ⟨w, As1.2 ⟨h, (AW8.1 hm).1, hwh⟩, e⟩
  · have := Bs7 (a := 0) hts fun u hu => by have := Cs9.1 (htl u hu).1; omega
    exact this
theorem put_keys {l q : List B1} {w : List A4} {t : Int} (hw : (w.map A4.Key).Nodup) (hl : adj j6 l = true) (hq : adj j6 q = true) (h : Z4 l w t = some q) : ∀ k ∈ n2 q, k ∈ n2 l ∨ k ∈ Q3 w := fun k hk => by
  obtain ⟨h1, h2⟩ := BR8 hw hl h;by_cases hm : k ∈ w.map A4.Key
  · exact Or.inr hm
  · left
    unfold n2 at hk;obtain ⟨c, hc, e⟩ := Y0.1 hk;obtain ⟨i, hi⟩ := X9 hc;have h3 := CX4 hq hi;rw [e, h2 k hm] at h3;obtain ⟨h4, h5⟩ := CJ3 h3;exact Y0.2 ⟨c, h4, e⟩
theorem put_last {l q : List B1} {w : List A4} {t : Int} (hw : (w.map A4.Key).Nodup) (hl : adj j6 l = true) (h : Z4 l w t = some q) (k : Str) : N8 q k = t ∨ N8 q k = N8 l k := by
  obtain ⟨h1, h2⟩ := BR8 hw hl h;by_cases hm : k ∈ w.map A4.Key
  · obtain ⟨x, hx, e⟩ := Y0.1 hm
    have := h1 x hx;rw [e] at this;left; unfold N8 CT2; rw [this]; simp
  · right; exact BM4 (h2 k hm)
theorem Ag3 {l : List D1} {n : Int} {h : D1} (e : AB3 l n = some h) : h ∈ l ∧ h.Txn = n := by
  unfold AB3 at e;exact ⟨Ah0 e, by simpa using List.find?_some e⟩
theorem Az7 {l : List D1} {n : Int} : AB3 l n = none ↔ AP1 l n = false := by
  unfold AB3 AP1; rw [List.find?_eq_none, List.any_eq_false]
theorem Ch8 {s : D9} (g : GS s) {h : D1} (hm : h ∈ s.Held) : j5 h.Writes = true := by
  have := (g.good h hm).1;unfold S1 AT4 at this;rw [D0 rfl] at this;unfold Av3 at this;simp only [E8] at this;exact this.1.1.2
theorem Ct1 {s : D9} (g : GS s) {h k : D1} (hh : h ∈ s.Held) (hk : k ∈ s.Held) (hne : k.Txn ≠ h.Txn) : apart k h.Reads h.Writes = true := by
  obtain ⟨i, hi⟩ := X9 hh;obtain ⟨j, hj⟩ := X9 hk;obtain ⟨i1, i2⟩ := E9.1 hi;obtain ⟨j1, j2⟩ := E9.1 hj;have hp := List.pairwise_iff_getElem.1 g.apart;rcases Nat.lt_trichotomy i j with h1 | h1 | h1
  · have := hp i j i1 j1 h1
    rw [i2, j2] at this; exact BZ2 this
  · subst h1; rw [hi] at hj; injection hj with hj; exact (hne (by rw [hj])).elim
  · have := hp j i j1 i1 h1
    rw [i2, j2] at this; exact this
theorem gs_yes {s : D9} (g : GS s) {h : D1} (hm : h ∈ s.Held) {t : Int} (hx : AL1 h.Txn = true) (hT : AM2 s.Told h.Txn = false) (ht : h.Time ≤ t ∧ t ≤ 100000) {q : List B1} (hp : Z4 s.Cells h.Writes t = some q) (hq : m5 q = true) :
    GS ⟨if s.Floor < t then t else s.Floor, q, o7 s.Held h.Txn, AP2 ⟨h.Txn, true, t⟩ s.Told⟩ := by
  have hw := CX7 (Ch8 g hm);have ha := (W6 g.cells).2.1;have hqa := (W6 hq).2.1;have h0 := g.floor;have ht1 : 1 ≤ h.Time := by
    have := (g.good h hm).1;unfold S1 AT4 at this;rw [D0 rfl] at this;unfold Av3 AR9 within at this
    simp only [E8, H1] at this;omega
  refine Bs8 g rfl hx hT (by split <;> omega) hq (fun c hc => ?_) (fun k hk w hwk => ?_) (fun k hk => ?_) ?_
  · rcases put_last hw ha hp c.Key with e | e
    · rw [e]; split <;> omega
    · rw [e]; have := Co6 g c.Key; split <;> omega
  · obtain ⟨k1, k2⟩ := AW8.1 hk
    refine (BR8 hw ha hp).2 _ fun hmem => ?_;obtain ⟨v, hv, e⟩ := Y0.1 hmem;exact ((Aw2.1 (Ct1 g hm k1 k2)).2 v hv).1 w hwk e.symm
  · rcases put_keys hw ha hqa hp k hk with e | e
    · exact Or.inl e
    · refine Or.inr ?_
      unfold Q3 at e ⊢;obtain ⟨w, hw2, e⟩ := Y0.1 e;exact Y0.2 ⟨w, As1.2 ⟨h, hm, hw2⟩, e⟩
  · rw [D0 rfl]; unfold within; simp only [E8, H1]; split <;> omega
theorem good2_of {r : M5} (h : S1 r = true) (h4 : r.Kind ≠ 4) (h1 : r.Kind ≠ 1) : Bh0 r = true := by
  unfold S1 at h;rw [C6 h1] at h;split at h
  · exact h
  · cases h
theorem Bg3 {l : List B1} {w : List A4} {t : Int} (h : (AE2 l w t).2 = true) : Z4 l w t = some (AE2 l w t).1 ∧ m5 (AE2 l w t).1 = true := by
  unfold AE2 at h ⊢
  cases hp : Z4 l w t with
  | none => rw [hp] at h; cases h
  | some q => rw [hp] at h; dsimp only at h ⊢; exact ⟨rfl, by rw [AC6]; exact h⟩
theorem gs_apply {s : D9} (g : GS s) {r : M5} (hr : S1 r = true) (h : (U4 s r).2 = true) : GS (U4 s r).1 := by
  have htm := CX9 hr;unfold U4 at h ⊢;by_cases h4 : r.Kind = 4
  · rw [D0 h4] at h ⊢
    exact gs_floor g (by have := r3 h; omega) htm.2
  · rw [C6 h4] at h ⊢
    by_cases hT : AM2 s.Told r.Txn = true
    · rw [D0 hT] at h; cases h
    · rw [C6 hT] at h ⊢
      rw [Bool.not_eq_true] at hT;by_cases h1 : r.Kind = 1
      · rw [D0 h1] at h ⊢
        simp only [E8, i6, H1] at h;exact Ct0 g hr h1 h.1.1 hT h.1.2 h.2
      · rw [C6 h1] at h ⊢
        have h2 := good2_of hr h4 h1;unfold Bh0 at h2;simp only [E8, AA9, i6, j0] at h2;obtain ⟨⟨_, hx⟩, h3⟩ := h2;by_cases hy : r.Yes = true
        · rw [D0 hy] at h ⊢
          cases hf : AB3 s.Held r.Txn with
          | none => rw [hf] at h; cases h
          | some k =>
            rw [hf] at h;dsimp only at h ⊢;by_cases hlt : r.Time < k.Time
            · rw [D0 hlt] at h; cases h
            · rw [C6 hlt] at h ⊢
              by_cases hp : (AE2 s.Cells k.Writes r.Time).2 = true
              · rw [D0 hp]
                obtain ⟨p1, p2⟩ := Bg3 hp;obtain ⟨k1, k2⟩ := Ag3 hf;have := gs_yes g k1 (t := r.Time) (by rw [k2]; exact hx) (by rw [k2]; exact hT) ⟨by omega, htm.2⟩ p1 p2;rw [k2] at this;unfold AI2; rw [hy]; exact this
              · rw [C6 hp] at h; cases h
        · rw [C6 hy]
          rw [Bool.not_eq_true] at hy;rw [hy] at h3;simp only [Bool.false_eq_true, false_and, true_and, false_or] at h3;have h0 := g.floor;unfold AI2;refine Bs8 g rfl hx hT ⟨Int.le_refl _, h0.2⟩ g.cells g.last (fun _ _ _ _ => rfl) (fun k hk => Or.inl hk) ?_;rw [hy, h3]; rfl
theorem BM5 : GS T8 where
  floor := by decide
  cells := by decide
  good := fun h hm => by cases hm
  hsort := List.Pairwise.nil
  apart := List.Pairwise.nil
  hlen := by decide
  room := by
    unfold room Ai8;rw [E8];refine ⟨rfl, i7 ?_⟩;exact L8 (BY8 _) F1
  tlen := by decide
  last := fun c hc => by cases hc
  told := fun t ht => by cases ht
  tsort := List.Pairwise.nil
theorem gs_step {s : D9} (g : GS s) {r : M5} (hr : S1 r = true) : GS (AD8 s r) := by
  unfold AD8;split
  · exact gs_apply g hr ‹_›
  · exact g
theorem CC2 : ∀ {l : List M5} {s : D9}, GS s → (∀ r ∈ l, S1 r = true) → GS (V9 s l)
  | [], s, g, _ => g
  | r :: l, s, g, h => by
    show GS (V9 (AD8 s r) l)
    exact CC2 (gs_step g (h r Y9)) fun x hx => h x (Q2 _ hx)
def settled (s : D9) : Int := s.Held.foldl (fun o h => min o (h.Time - 1)) s.Floor
structure Keeps (s s' : D9) : Prop where
  floor : s.Floor ≤ s'.Floor
  told : ∀ t ∈ s.Told, t ∈ s'.Told
  tlen : s.Told.length ≤ s'.Told.length
  settled : settled s ≤ settled s'
  cells : ∀ a, a ≤ M.settled s → T3 s'.Cells a = T3 s.Cells a
theorem BZ7 (c : B1) (l : List B1) (a : Int) : T3 (c :: l) a = (if (Z8 c a).2 = true then [⟨c.Key, (Z8 c a).1, false⟩] else []) ++ T3 l a := by
  unfold T3;rw [AU2];split
  · rename_i h; split at h
    · cases h
    · rename_i h2; rw [C6 h2]; rfl
  · rename_i b h; split at h
    · rename_i h2; injection h with h; subst h; rw [D0 h2]; rfl
    · cases h
def u5 : List Str := [[97], [98], [99], [109], [110], [122], [114, 47, 49], [105, 47, 120, 47, 49]]
def valD : List Str := [[], [49], [55], [49, 48], [45, 51], [120], [97, 44, 98, 95, 99]]
def keyS : List Str := [[97], [98], [99], [105, 47, 120, 47, 49], [109], [110], [114, 47, 49], [122]]
theorem AR1 {k : Str} (h : k ∈ u5) : f6 k = true ∧ k.length ≤ 5 := by
  have : ∀ k ∈ u5, f6 k = true ∧ k.length ≤ 5 := by decide
  exact this k h
def AS0 (t : Int) : Int → List I5 → Bool
  | _, [] => true
  | p, e :: l => (within e.Term p t && S1 e.Rec) && AS0 t e.Term l
def w4 (r : E6) (t : Int) : Bool := (decide ((r.Log.length : Int) ≤ 60) && within r.Sure 0 r.Log.length) && AS0 t 1 r.Log
def AL2 (n : Int) : Bool := n == 3 || n == 5
def Ah6 (g : C4) (r : Int) : Bool := within r 0 ((g.Reps.length : Int) - 1)
def N9 (g : C4) (r : Int) : E6 := (g.Reps[r.toNat]?).getD ⟨false, [], 0⟩
def Z6 (g : C4) : Bool := ((AL2 g.Reps.length && within g.Term 0 200) && (g.Lead == -1 || (Ah6 g g.Lead && (N9 g g.Lead).Up))) && g.Reps.all fun r => w4 r g.Term
def AH5 : C4 := ⟨[], 0, 0⟩
structure GR (r : E6) (t : Int) : Prop where
  len : r.Log.length ≤ 60
  sure : 0 ≤ r.Sure ∧ r.Sure ≤ r.Log.length
  ents : ∀ e ∈ r.Log, 1 ≤ e.Term ∧ e.Term ≤ t ∧ S1 e.Rec = true
  sorted : r.Log.Pairwise fun a b => a.Term ≤ b.Term
structure GG (g : C4) : Prop where
  many : g.Reps.length = 3 ∨ g.Reps.length = 5
  term : 0 ≤ g.Term ∧ g.Term ≤ 200
  lead : g.Lead = -1 ∨ (0 ≤ g.Lead ∧ g.Lead < g.Reps.length ∧ (N9 g g.Lead).Up = true)
  reps : ∀ r ∈ g.Reps, GR r g.Term
theorem CJ4 {t : Int} : ∀ {l : List I5} {p : Int}, AS0 t p l = true ↔ (∀ e ∈ l, p ≤ e.Term ∧ e.Term ≤ t ∧ S1 e.Rec = true) ∧ l.Pairwise fun a b => a.Term ≤ b.Term
  | [], p => by simp [AS0]
  | e :: l, p => by
    unfold AS0 within
    rw [E8, E8, E8, H1, H1, CJ4, n4];constructor
    · rintro ⟨⟨⟨h1, h2⟩, h3⟩, h4, h5⟩
      refine ⟨fun x hx => ?_, fun x hx => (h4 x hx).1, h5⟩;rcases Q0.1 hx with rfl | hx
      · exact ⟨h1, h2, h3⟩
      · have := h4 x hx; exact ⟨by omega, this.2⟩
    · rintro ⟨h1, h2, h3⟩
      have h0 := h1 e Y9;exact ⟨⟨⟨h0.1, h0.2.1⟩, h0.2.2⟩, fun x hx => ⟨h2 x hx, (h1 x (Q2 _ hx)).2⟩, h3⟩
theorem Ch9 {r : E6} {t : Int} : w4 r t = true ↔ GR r t := by
  unfold w4 within
  simp only [E8, H1, CJ4];constructor
  · rintro ⟨⟨h1, h2, h3⟩, h4, h5⟩; exact ⟨by omega, ⟨h2, h3⟩, h4, h5⟩
  · rintro ⟨h1, ⟨h2, h3⟩, h4, h5⟩; exact ⟨⟨by omega, h2, h3⟩, h4, h5⟩
theorem Ad4 {g : C4} {r : Int} : Ah6 g r = true ↔ 0 ≤ r ∧ r < g.Reps.length := by
  unfold Ah6 within; simp only [E8, H1]; omega
theorem AK3 {g : C4} : Z6 g = true ↔ GG g := by
  unfold Z6 AL2 within
  simp only [E8, AA9, H1, j0, l5, Ch9, Ad4];constructor
  · rintro ⟨⟨⟨h1, h2⟩, h3⟩, h4⟩
    refine ⟨by omega, h2, ?_, h4⟩;rcases h3 with h | ⟨⟨h, k⟩, l⟩
    · exact .inl h
    · exact .inr ⟨h, k, l⟩
  · rintro ⟨h1, h2, h3, h4⟩
    refine ⟨⟨⟨by omega, h2⟩, ?_⟩, h4⟩;rcases h3 with h | ⟨h, k, l⟩
    · exact .inl h
    · exact .inr ⟨⟨h, k⟩, l⟩
theorem p5 {g : C4} {r : Int} (h : 0 ≤ r ∧ r < g.Reps.length) : g.Reps[r.toNat]? = some (N9 g r) := by
  unfold N9;rw [N6 (show r.toNat < g.Reps.length by omega)]; rfl
theorem repAt_of {g : C4} {r : Int} {x : E6} (h : g.Reps[r.toNat]? = some x) : N9 g r = x := by unfold N9; rw [h]; rfl
theorem AE6 {g : C4} {r : Int} (h : 0 ≤ r ∧ r < g.Reps.length) : N9 g r ∈ g.Reps := C2 (p5 h)
def AW1 (g : C4) (r : Int) (x : E6) : C4 := ⟨g.Reps.set r.toNat x, g.Term, g.Lead⟩
def BF0 (g : C4) (r : Int) (up : Bool) : Bool := (Z6 g && Ah6 g r) && ((N9 g r).Up == up)
def q9 (g : C4) (r : Int) : C4 × Bool :=
  if BF0 g r true = true then (⟨g.Reps.set r.toNat ⟨false, (N9 g r).Log, (N9 g r).Sure⟩, g.Term, if g.Lead = r then -1 else g.Lead⟩, true) else (AH5, false)
def t7 (g : C4) (r : Int) : C4 × Bool :=
  if BF0 g r false = true then (⟨g.Reps.set r.toNat ⟨true, (N9 g r).Log, (N9 g r).Sure⟩, g.Term, g.Lead⟩, true) else (AH5, false)
def AT6 (l : List I5) : Int := match l.getLast? with | some e => e.Term | none => 0
def At1 (a b : List I5) : Bool := decide (AT6 b < AT6 a) || (AT6 a == AT6 b && decide (b.length < a.length))
def Bd6 (g : C4) (p : E6 → Bool) : Bool := decide ((g.Reps.length : Int) < 2 * ((g.Reps.filter p).length : Int))
def Z9 (g : C4) (r : Int) : C4 × Bool :=
  if (BF0 g r true && !(g.Term == 200)) = true ∧ Bd6 g (fun x => x.Up && !At1 x.Log (N9 g r).Log) = true then (⟨g.Reps, g.Term + 1, r⟩, true) else (AH5, false)
def Aa4 (g : C4) : Bool := Z6 g && decide (0 ≤ g.Lead)
def AD9 (g : C4) (r : M5) : C4 × Bool :=
  if (Aa4 g && S1 r) = true ∧ (N9 g g.Lead).Log.length < 60 then (AW1 g g.Lead ⟨(N9 g g.Lead).Up, (N9 g g.Lead).Log ++ [⟨g.Term, r⟩], (N9 g g.Lead).Sure⟩, true) else (AH5, false)
def AH3 (g : C4) (r : Int) : C4 × Bool :=
  if (BF0 g r true && decide (0 ≤ g.Lead)) = true ∧ g.Lead ≠ r then (AW1 g r ⟨true, (N9 g g.Lead).Log, min ((N9 g g.Lead).Log.length : Int) (max (N9 g r).Sure (N9 g g.Lead).Sure)⟩, true) else (AH5, false)
def AS1 (a b : List I5) (n : Nat) : Bool := decide (n ≤ a.length ∧ n ≤ b.length ∧ a.take n = b.take n)
def Ap5 (g : C4) (n : Nat) : Bool := decide ((((N9 g g.Lead).Log[n - 1]?).map I5.Term) = some g.Term) && Bd6 g fun x => AS1 x.Log (N9 g g.Lead).Log n
def AB8 (p : Nat → Bool) (lo : Nat) : Nat → Option Nat
  | 0 => none
  | n + 1 => if n + 1 ≤ lo then none else if p (n + 1) = true then some (n + 1) else AB8 p lo n
def AM3 (g : C4) : C4 × Bool :=
  if Aa4 g = true then (match AB8 (Ap5 g) (N9 g g.Lead).Sure.toNat (N9 g g.Lead).Log.length with
    | some n => (AW1 g g.Lead ⟨(N9 g g.Lead).Up, (N9 g g.Lead).Log, (n : Int)⟩, true)
    | none => (g, true)) else (AH5, false)
theorem BV5 {p : Nat → Bool} {lo : Nat} : ∀ {k n : Nat}, AB8 p lo k = some n → lo < n ∧ n ≤ k ∧ p n = true
  | 0, n, h => by cases h
  | k + 1, n, h => by
    unfold AB8 at h;split at h
    · cases h
    · split at h
      · injection h with h; subst h; exact ⟨by omega, K5 _, ‹_›⟩
      · have := BV5 h; exact ⟨this.1, by omega, this.2.2⟩
theorem Ad5 {g : C4} {r : Int} {up : Bool} : BF0 g r up = true ↔ GG g ∧ (0 ≤ r ∧ r < g.Reps.length) ∧ (N9 g r).Up = up := by
  unfold BF0;rw [E8, E8, AK3, Ad4, j0];constructor
  · rintro ⟨⟨a, b⟩, c⟩; exact ⟨a, b, c⟩
  · rintro ⟨a, b, c⟩; exact ⟨⟨a, b⟩, c⟩
theorem Ai5 {g : C4} : Aa4 g = true ↔ GG g ∧ 0 ≤ g.Lead ∧ g.Lead < g.Reps.length ∧ (N9 g g.Lead).Up = true := by
  unfold Aa4;rw [E8, AK3, H1];constructor
  · rintro ⟨a, b⟩
    rcases a.lead with h | ⟨h1, h2, h3⟩
    · omega
    · exact ⟨a, h1, h2, h3⟩
  · rintro ⟨a, b, _⟩; exact ⟨a, b⟩
theorem CC3 {g : C4} {r : Int} {x : E6} {t l : Int} (h : 0 ≤ r ∧ r < g.Reps.length) : N9 ⟨g.Reps.set r.toNat x, t, l⟩ r = x := by
  unfold N9;dsimp only;rw [AO3 qz8]; rfl
theorem BD6 {g : C4} {r q : Int} {x : E6} {t l : Int} (hr : 0 ≤ r) (hq : 0 ≤ q) (h : q ≠ r) : N9 ⟨g.Reps.set r.toNat x, t, l⟩ q = N9 g q := by
  unfold N9;dsimp only;rw [AY3 qz8]
theorem gr_mono {r : E6} {t u : Int} (h : GR r t) (k : t ≤ u) : GR r u := ⟨h.len, h.sure, fun e he => by have := h.ents e he; exact ⟨this.1, by omega, this.2.2⟩, h.sorted⟩
theorem Bn0 {g : C4} (h : GG g) {r : Int} {x : E6} (hx : GR x g.Term) : ∀ y ∈ g.Reps.set r.toNat x, GR y g.Term := fun y hy => by
  rcases List.mem_or_eq_of_mem_set hy with hy | rfl
  · exact h.reps y hy
  · exact hx
theorem Ct2 {g : C4} {r : Int} (h : (q9 g r).2 = true) : GG (q9 g r).1 ∧ (q9 g r).1.Reps.length = g.Reps.length := by
  unfold q9 at h ⊢;by_cases hc : BF0 g r true = true
  · rw [D0 hc] at h ⊢
    obtain ⟨gg, hr, hu⟩ := Ad5.1 hc;have hg := gg.reps _ (AE6 hr);refine ⟨⟨?_, gg.term, ?_, Bn0 gg ⟨hg.len, hg.sure, hg.ents, hg.sorted⟩⟩, Z0 ..⟩
    · show (g.Reps.set _ _).length = 3 ∨ (g.Reps.set _ _).length = 5
      rw [Z0]; exact gg.many
    · dsimp only
      by_cases hl : g.Lead = r
      · rw [D0 hl]; exact .inl rfl
      · rw [C6 hl]
        rcases gg.lead with e | ⟨a, b, c⟩
        · exact .inl e
        · refine .inr ⟨a, by rw [Z0]; exact b, ?_⟩
          have := BD6 (g := g) (x := ⟨false, (N9 g r).Log, (N9 g r).Sure⟩) (t := g.Term) (l := g.Lead) hr.1 a hl;rw [this]; exact c
  · rw [C6 hc] at h; cases h
theorem Ct3 {g : C4} {r : Int} (h : (t7 g r).2 = true) : GG (t7 g r).1 ∧ (t7 g r).1.Reps.length = g.Reps.length := by
  unfold t7 at h ⊢;by_cases hc : BF0 g r false = true
  · rw [D0 hc] at h ⊢
    obtain ⟨gg, hr, hu⟩ := Ad5.1 hc;have hg := gg.reps _ (AE6 hr);refine ⟨⟨?_, gg.term, ?_, Bn0 gg ⟨hg.len, hg.sure, hg.ents, hg.sorted⟩⟩, Z0 ..⟩
    · show (g.Reps.set _ _).length = 3 ∨ (g.Reps.set _ _).length = 5
      rw [Z0]; exact gg.many
    · dsimp only
      rcases gg.lead with e | ⟨a, b, c⟩
      · exact .inl e
      · refine .inr ⟨a, by rw [Z0]; exact b, ?_⟩
        by_cases hl : g.Lead = r
        · rw [hl] at c; rw [hu] at c; cases c
        · have := BD6 (g := g) (x := ⟨true, (N9 g r).Log, (N9 g r).Sure⟩) (t := g.Term) (l := g.Lead) hr.1 a hl
          rw [this]; exact c
  · rw [C6 hc] at h; cases h
theorem Bs9 {g : C4} {r : Int} (h : (Z9 g r).2 = true) : GG (Z9 g r).1 ∧ (Z9 g r).1.Reps.length = g.Reps.length ∧ (Z9 g r).1.Lead = r ∧ 0 ≤ r ∧ r < g.Reps.length := by
  unfold Z9 at h ⊢;split at h
  · rename_i hc
    rw [D0 hc];rw [E8, i6, beq_eq_false_iff_ne] at hc;obtain ⟨gg, hr, hu⟩ := Ad5.1 hc.1.1;have ht := gg.term;exact ⟨⟨gg.many, by dsimp only; omega, .inr ⟨hr.1, hr.2, hu⟩, fun y hy => gr_mono (gg.reps y hy) (by dsimp only; omega)⟩, rfl, rfl, hr.1, hr.2⟩
  · cases h
theorem BK5 {g : C4} (gg : GG g) {r : Int} (hr : 0 ≤ r ∧ r < g.Reps.length) {x : E6} (hx : GR x g.Term) (hu : x.Up = (N9 g r).Up) : GG (AW1 g r x) := by
  refine ⟨?_, gg.term, ?_, Bn0 gg hx⟩
  · show (g.Reps.set _ _).length = 3 ∨ (g.Reps.set _ _).length = 5
    rw [Z0]; exact gg.many
  · show g.Lead = -1 ∨ (0 ≤ g.Lead ∧ g.Lead < ((g.Reps.set r.toNat x).length : Int) ∧ (N9 ⟨g.Reps.set r.toNat x, g.Term, g.Lead⟩ g.Lead).Up = true)
    rcases gg.lead with e | ⟨a, b, c⟩
    · exact .inl e
    · refine .inr ⟨a, by rw [Z0]; exact b, ?_⟩
      by_cases hl : g.Lead = r
      · have := CC3 (g := g) (x := x) (t := g.Term) (l := g.Lead) hr
        rw [hl] at c this ⊢;rw [this, hu]; exact c
      · have := BD6 (g := g) (x := x) (t := g.Term) (l := g.Lead) hr.1 a hl
        rw [this]; exact c
theorem BS2 (g : C4) (r : Int) (x : E6) : (AW1 g r x).Reps.length = g.Reps.length := Z0 ..
theorem DA9 {g : C4} {r : M5} (ht : 1 ≤ g.Term) (h : (AD9 g r).2 = true) : GG (AD9 g r).1 ∧ (AD9 g r).1.Reps.length = g.Reps.length ∧ (AD9 g r).1.Lead = g.Lead := by
  unfold AD9 at h ⊢;split at h
  · rename_i hc
    rw [D0 hc];rw [E8] at hc;obtain ⟨gg, h1, h2, h3⟩ := Ai5.1 hc.1.1;have hg := gg.reps _ (AE6 ⟨h1, h2⟩);refine ⟨BK5 gg ⟨h1, h2⟩ ⟨?_, ?_, fun e he => ?_, ?_⟩ rfl, BS2 .., rfl⟩
    · rw [H3]; have := hc.2; simp; omega
    · have := hg.sure; rw [H3]; simp; omega
    · rcases o5.1 he with he | he
      · exact hg.ents e he
      · rw [Z5.1 he]
        exact ⟨ht, Int.le_refl _, hc.1.2⟩
    · rw [List.pairwise_append]
      exact ⟨hg.sorted, List.pairwise_singleton _ _, fun a ha b hb => by rw [Z5.1 hb]; exact (hg.ents a ha).2.1⟩
  · cases h
theorem DB0 {g : C4} {r : Int} (h : (AH3 g r).2 = true) : GG (AH3 g r).1 ∧ (AH3 g r).1.Reps.length = g.Reps.length ∧ (AH3 g r).1.Lead = g.Lead := by
  unfold AH3 at h ⊢;split at h
  · rename_i hc
    rw [D0 hc];rw [E8, H1] at hc;obtain ⟨gg, hr, hu⟩ := Ad5.1 hc.1.1;have hl : 0 ≤ g.Lead ∧ g.Lead < g.Reps.length := by rcases gg.lead with e | ⟨a, b, _⟩; omega; exact ⟨a, b⟩
    have hg := gg.reps _ (AE6 hl);have hq := gg.reps _ (AE6 hr);refine ⟨BK5 gg hr ⟨hg.len, ?_, hg.ents, hg.sorted⟩ hu.symm, BS2 .., rfl⟩;have h1 := hg.sure;have h2 := hq.sure;dsimp only;omega
  · cases h
theorem adv_good {g : C4} (h : (AM3 g).2 = true) : GG (AM3 g).1 ∧ (AM3 g).1.Reps.length = g.Reps.length ∧ (AM3 g).1.Lead = g.Lead := by
  unfold AM3 at h ⊢;split at h
  · rename_i hc
    rw [D0 hc];obtain ⟨gg, h1, h2, h3⟩ := Ai5.1 hc;have hg := gg.reps _ (AE6 ⟨h1, h2⟩);split
    · rename_i n hn
      have := BV5 hn;exact ⟨BK5 gg ⟨h1, h2⟩ ⟨hg.len, ⟨by dsimp only; omega, by dsimp only; omega⟩, hg.ents, hg.sorted⟩ rfl, BS2 .., rfl⟩
    · exact ⟨gg, rfl, rfl⟩
  · cases h
theorem BS3 {g : C4} {r : Int} : ((q9 g r).2 = true → (q9 g r).1.Term = g.Term) ∧ ((t7 g r).2 = true → (t7 g r).1.Term = g.Term) ∧ ((Z9 g r).2 = true → (Z9 g r).1.Term = g.Term + 1) ∧ ((AH3 g r).2 = true → (AH3 g r).1.Term = g.Term) := by
  unfold q9 t7 Z9 AH3 AW1;refine ⟨?_, ?_, ?_, ?_⟩ <;> (split <;> intro h <;> first | rfl | cases h)
theorem DB1 {g : C4} {r : M5} (h : (AD9 g r).2 = true) : (AD9 g r).1.Term = g.Term := by
  unfold AD9 AW1 at *;split <;> first | rfl | (rename_i hc; rw [C6 hc] at h; cases h)
theorem adv_term {g : C4} (h : (AM3 g).2 = true) : (AM3 g).1.Term = g.Term := by
  unfold AM3 AW1 at *;split at h
  · rw [D0 ‹_›]; split <;> rfl
  · cases h
theorem Ct4 {g : C4} {r : Int} (h : (q9 g r).2 = true) : (q9 g r).1.Lead = -1 ∨ (q9 g r).1.Lead = g.Lead := by
  unfold q9 at h ⊢;split at h
  · rw [D0 ‹_›]; dsimp only; split; exact .inl rfl; exact .inr rfl
  · cases h
theorem Ct5 {g : C4} {r : Int} (h : (t7 g r).2 = true) : (t7 g r).1.Lead = g.Lead := by
  unfold t7 at h ⊢;split at h
  · rw [D0 ‹_›]
  · cases h
def AJ8 (P : M5 → Prop) (g : C4) : Prop := ∀ r ∈ g.Reps, ∀ e ∈ r.Log, P e.Rec
theorem Aw4 {P : M5 → Prop} {g : C4} (h : AJ8 P g) (r : Int) : ∀ e ∈ (N9 g r).Log, P e.Rec := by
  intro e he;unfold N9 at he
  cases hx : g.Reps[r.toNat]? with
  | none => rw [hx] at he; cases he
  | some x => rw [hx] at he; exact h x (C2 hx) e he
theorem BM6 {P : M5 → Prop} {g : C4} (h : AJ8 P g) {r : Int} {x : E6} (hx : ∀ e ∈ x.Log, P e.Rec) {t l : Int} : AJ8 P ⟨g.Reps.set r.toNat x, t, l⟩ := by
  intro y hy;rcases List.mem_or_eq_of_mem_set hy with hy | rfl
  · exact h y hy
  · exact hx
theorem Ag4 {P : M5 → Prop} : AJ8 P AH5 := fun r hr => by cases hr
theorem DB2 {P : M5 → Prop} {g : C4} {r : Int} (h : AJ8 P g) : AJ8 P (q9 g r).1 := by
  unfold q9;split
  · refine BM6 h ?_; exact Aw4 h r
  · exact Ag4
theorem DB3 {P : M5 → Prop} {g : C4} {r : Int} (h : AJ8 P g) : AJ8 P (t7 g r).1 := by
  unfold t7;split
  · refine BM6 h ?_; exact Aw4 h r
  · exact Ag4
theorem DB4 {P : M5 → Prop} {g : C4} {r : Int} (h : AJ8 P g) : AJ8 P (Z9 g r).1 := by
  unfold Z9;split
  · exact h
  · exact Ag4
theorem put_log {P : M5 → Prop} {g : C4} {r : M5} (h : AJ8 P g) (hr : P r) : AJ8 P (AD9 g r).1 := by
  unfold AD9;split
  · refine BM6 h fun e he => ?_
    rcases o5.1 he with he | he
    · exact Aw4 h _ e he
    · rw [Z5.1 he]; exact hr
  · exact Ag4
theorem copy_log {P : M5 → Prop} {g : C4} {r : Int} (h : AJ8 P g) : AJ8 P (AH3 g r).1 := by
  unfold AH3;split
  · refine BM6 h ?_; exact Aw4 h g.Lead
  · exact Ag4
theorem adv_log {P : M5 → Prop} {g : C4} (h : AJ8 P g) : AJ8 P (AM3 g).1 := by
  unfold AM3;split
  · split
    · refine BM6 h ?_; exact Aw4 h g.Lead
    · exact h
  · exact Ag4
def Aj0 (r : M5) : Prop := ∀ w ∈ r.Writes, w.Key ∈ u5
structure WG (g : C4) : Prop where
  good : GG g
  three : g.Reps.length = 3
  led : 0 ≤ g.Lead → 1 ≤ g.Term
  keys : AJ8 Aj0 g
theorem wg_crash {g : C4} {r : Int} (w : WG g) (h : (q9 g r).2 = true) : WG (q9 g r).1 := by
  have h1 := Ct2 h;refine ⟨h1.1, h1.2.trans w.three, fun hl => ?_, DB2 w.keys⟩;have := w.led;rw [(BS3 (g := g) (r := r)).1 h];rcases Ct4 h with e | e <;> rw [e] at hl
  · omega
  · exact this hl
theorem wg_start {g : C4} {r : Int} (w : WG g) (h : (t7 g r).2 = true) : WG (t7 g r).1 := by
  have h1 := Ct3 h;refine ⟨h1.1, h1.2.trans w.three, fun hl => ?_, DB3 w.keys⟩;rw [(BS3 (g := g) (r := r)).2.1 h];rw [Ct5 h] at hl;exact w.led hl
theorem wg_elect {g : C4} {r : Int} (w : WG g) (h : (Z9 g r).2 = true) : WG (Z9 g r).1 := by
  have h1 := Bs9 h;refine ⟨h1.1, h1.2.1.trans w.three, fun hl => ?_, DB4 w.keys⟩;rw [(BS3 (g := g) (r := r)).2.2.1 h];have := w.good.term;omega
theorem wg_copy {g : C4} {r : Int} (w : WG g) (h : (AH3 g r).2 = true) : WG (AH3 g r).1 := by
  have h1 := DB0 h;refine ⟨h1.1, h1.2.1.trans w.three, fun hl => ?_, copy_log w.keys⟩;rw [(BS3 (g := g) (r := r)).2.2.2 h];rw [h1.2.2] at hl;exact w.led hl
theorem wg_put {g : C4} {r : M5} (w : WG g) (hl : 0 ≤ g.Lead) (hk : Aj0 r) (h : (AD9 g r).2 = true) : WG (AD9 g r).1 := by
  have h1 := DA9 (w.led hl) h;refine ⟨h1.1, h1.2.1.trans w.three, fun _ => ?_, put_log w.keys hk⟩;rw [DB1 h]; exact w.led hl
theorem wg_adv {g : C4} (w : WG g) (h : (AM3 g).2 = true) : WG (AM3 g).1 := by
  have h1 := adv_good h;refine ⟨h1.1, h1.2.1.trans w.three, fun hl => ?_, adv_log w.keys⟩;rw [adv_term h];rw [h1.2.2] at hl;exact w.led hl
end Go.M
namespace Go.PQ
open Go.Proofs
open Go Go.AV Go.M
attribute [local irreducible] OpW OpA OpS AWP J6 L3 K2 K6 Le Ev F7
@[reducible] def E1 (f : FuncId) (xs : List AV) (y : AV) : Prop := J6 Tryz.prog f xs y
@[reducible] def M1 (f : FuncId) (xs : List AV) (ow : List Go.AV.Own) {α : Type} (ok : α → Prop) (O : α → List Go.AV.Own) (V : α → AV) : Prop := K7 Tryz.prog f xs ow ok O V
theorem Y8 (a b c : Int) : E1 39 [AV.int a, AV.int b, AV.int c] (AV.bool (within a b c)) := by
  refine B3 Tryz.func39 rfl Tryz.ntmps39 rfl ?_;refine R17 ?_;exact D6 rfl (A6 rfl qz9)
theorem P3 (a b c : Int) : E1 24 [AV.int a, AV.int b, AV.int c] (AV.bool (within a b c)) := by
  refine B3 Tryz.func24 rfl Tryz.ntmps24 rfl ?_;refine R17 ?_;exact D6 rfl (A6 rfl qz9)
theorem Ci0 (c : UInt8) : E1 163 [AV.byte c] (AV.bool (Ao9 c)) := by
  refine B3 Tryz.func163 rfl Tryz.ntmps163 rfl ?_;refine R23 ?_;exact D6 rfl (A6 rfl qz9)
theorem idxB_ext (s : Str) (c : UInt8) : L3 Tryz.prog 257 [AV.str s, AV.byte c] (AV.int (BU9 s c)) := espec_mk fun R w vs h => by
  obtain ⟨v, u, rfl, h1, h2⟩ := denV_two h;have e1 : v = .string ⟨s.toArray⟩ := h1;have e2 : u = .int .u8 c.toNat := h2;subst e1; subst e2;refine ⟨.int .i64 (BU9 s c), ?_, rfl⟩;rw [run_callFunc_indexByte Tryz.func257 D4 D4 D4 D4, run_indexByte_string];simp [BU9]
theorem Ct6 (s : Str) (c : UInt8) : E1 199 [AV.str s, AV.byte c] (AV.int (BU9 s c)) := by
  refine B3 Tryz.func199 rfl Tryz.ntmps199 rfl ?_;refine R8 ?_;refine A1 rfl (w_ext rfl rfl (idxB_ext _ _) F0) ?_;refine R3 ?_;exact D6 rfl (A6 rfl qz9)
theorem DB5 (s : Str) (c : UInt8) : E1 164 [AV.str s, AV.byte c] (AV.int (BU9 s c)) := by
  refine B3 Tryz.func164 rfl Tryz.ntmps164 rfl ?_;refine R8 ?_;refine A1 rfl (A5 rfl Tryz.call199 rfl (Ct6 _ _) F0) ?_;refine R3 ?_;exact D6 rfl (A6 rfl qz9)
theorem CJ5 (s o : Str) (hs : s.length ≤ 4611686018427387904) : E1 134 [AV.str s, AV.str o] (AV.bool (hasB s o)) := by
 refine B3 Tryz.func134 rfl Tryz.ntmps134 rfl ?_;refine R12 ?_;refine F2 [(0, _), (1, _), (7, _)] _ (fun (i : Nat) => i ≤ s.length ∧ hasB s o = hasB (s.drop i) o) (fun i => []) (fun i => [(8, AV.int i)]) (fun i => s.length - i) (0) ?_ (G3 A8) ?_
 ·exact ⟨E2 _, rfl⟩
 intro i hinv;refine R5 ?_;refine A3 ?_ ?_
 ·intro h9;have k9 := C5 h9;have hlt : i < s.length := by have := r3 h9; omega
  obtain ⟨c, hc⟩ := B4 hlt;refine R12 ?_;refine A1 rfl (AU4 rfl O5 (A0 rfl) (A0 rfl) qz2 AC4) ?_;refine A1 rfl (A5 rfl Tryz.call163 rfl (Ci0 _) J3) ?_;refine R5 ?_;refine L6 rfl (fun hc => AU4 rfl O5 (A9 rfl hc) (A9 rfl hc) qz6 AC4) ?_;refine L6 rfl (fun hc => A5 rfl Tryz.call164 rfl (DB5 _ _) (A2 (A9 rfl hc) (A2 (A9 rfl hc) B0))) ?_;refine R3 ?_;refine A3 ?_ ?_
  ·intro h23;have hfin : hasB s o = false := by rw [hinv.2, I8 hc, CH7, h23]; rfl
   refine R5 ?_;exact D6 rfl (A6 rfl (by first | exact C3 AV.bool hfin.symm | exact C3 AV.bool BW6))
  intro h23;refine R5 ?_;refine G4 i (i + 1) ?_ ?_ (G3 A8)
  ·exact ⟨by omega, by rw [hinv.2, I8 hc, CH7, h23]; rfl⟩
  omega
 intro h9;have k9 := B9 h9;have hge : s.length ≤ i := by have := BA5 h9; omega
 refine R6 ?_;exact D6 rfl (A6 rfl (by first | exact C3 AV.bool hfin.symm | exact C3 AV.bool BW6))
theorem BZ8 (s o : Str) (hs : s.length ≤ 4611686018427387904) (ho : o.length ≤ 4611686018427387904) : E1 135 [AV.str s, AV.str o] (AV.bool (Aa2 s o)) := by
 refine B3 Tryz.func135 rfl Tryz.ntmps135 rfl ?_;refine R10 ?_;refine F2 [(0, _), (1, _)] _ (fun (i : Nat) => i ≤ s.length ∧ Aa2 s o = Aa2 (s.drop i) o) (fun i => []) (fun i => [(5, AV.int i)]) (fun i => s.length - i) (0) ?_ (G3 A8) ?_
 ·exact ⟨E2 _, rfl⟩
 intro i hinv;have hinv0 := hinv; clear hinv;refine R8 ?_;refine A3 ?_ ?_
 ·intro h11;have k11 := C5 h11;have hlt : i < s.length := by have := r3 h11; omega
  obtain ⟨c, hc⟩ := B4 hlt;refine R7 ?_;refine A1 rfl (AU4 rfl O5 (A0 rfl) (A0 rfl) qz2 AC4) ?_;refine R4 ?_;refine L6 rfl (fun hc => AU4 rfl O5 (A9 rfl hc) (A9 rfl hc) qz6 AC4) ?_;refine R5 ?_;refine Q7 rfl (fun hc => AU4 rfl O5 (A9 rfl hc) (A9 rfl hc) qz6 AC4) ?_;refine R4 ?_;refine s9 rfl rfl (X4 rfl rfl rfl) (fun hc => AU4 rfl O5 (A9 rfl hc) (A9 rfl hc) qz6 AC4) ?_;refine R11 ?_;refine J0 [(0, _), (1, _), (5, _), (8, _), (9, _), (10, _), (11, _), (14, _), (15, _), (16, _), (17, _), (18, _), (23, _), (24, _), (35, _)] _ (fun (k : Nat) (b : Bool) => k ≤ o.length ∧ (Ao9 c || o.any fun d => ((c.toNat : Int) == (d.toNat : Int))) = (b || (o.drop k).any fun d => ((c.toNat : Int) == (d.toNat : Int)))) (fun k b => []) (fun k b => [(6, AV.bool b), (7, AV.int k)]) (fun k b => o.length - k) (0) (Ao9 c) ?_ (G3 A8) ?_
  ·exact ⟨E2 _, rfl⟩
  intro k b hinv;refine R8 ?_;refine A3 ?_ ?_
  ·intro h39;have k39 := C5 h39;have hlt2 : k < o.length := by have := r3 h39; omega
   obtain ⟨d, hd⟩ := B4 hlt2;refine R8 ?_;refine Q4 rfl (Y4 rfl rfl rfl) (fun hc => AU4 rfl O5 (A9 rfl hc) (A9 rfl hc) qz6 AC4) ?_;refine R2 ?_;refine Q4 rfl (Y4 rfl rfl rfl) (fun hc => AU4 rfl O5 (A9 rfl hc) (A9 rfl hc) qz6 AC4) ?_;refine R9 ?_;refine G8 k b (k + 1) ((b || ((c.toNat : Int) == (d.toNat : Int)))) ?_ ?_ (G3 A8)
   ·exact ⟨by omega, by rw [hinv.2, I8 hd, Ab1, Bool.or_assoc]⟩
   omega
  intro h39;have k39 := B9 h39;have hge2 : o.length ≤ k := by have := BA5 h39; omega
  have hg : (Ao9 c || o.any fun d => ((c.toNat : Int) == (d.toNat : Int))) = b := by rw [hinv.2, k6 hge2]; simp
  refine R6 ?_;refine A3 ?_ ?_
  ·intro h53;have hfin : Aa2 s o = false := by rw [hinv0.2, I8 hc, BY2, hg]; cases b <;> simp_all
   refine R5 ?_;exact D6 rfl (A6 rfl qz171)
  intro h53;have hb : b = true := by cases b <;> simp_all
  refine R6 ?_;refine G4 i (i + 1) ?_ ?_ (G3 A8)
  ·exact ⟨by omega, by rw [hinv0.2, I8 hc, BY2, hg, hb]; rfl⟩
  omega
 intro h11;have k11 := B9 h11;have hge : s.length ≤ i := by have := BA5 h11; omega
 refine R6 ?_;exact D6 rfl (A6 rfl qz171)
theorem An2 (s : Str) (hs : s.length ≤ 4611686018427387904) : E1 91 [AV.str s] (AV.bool (f6 s)) := by
  refine B3 Tryz.func91 rfl Tryz.ntmps91 rfl ?_;refine R8 ?_;refine A1 rfl (A5 rfl Tryz.call39 rfl (Y8 _ _ _) AJ2) ?_;refine R2 ?_;refine L6 rfl (fun hc => A5 rfl Tryz.call134 rfl (CJ5 _ _ qz8) (A2 (A9 rfl hc) (A2 (S8 (l := [46, 47]) rfl) B0))) ?_;refine R4 ?_;exact D6 rfl (A6 rfl qz9)
theorem BZ9 (s : Str) (hs : s.length ≤ 4611686018427387904) : E1 93 [AV.str s] (AV.bool (Aa1 s)) := by
  refine B3 Tryz.func93 rfl Tryz.ntmps93 rfl ?_;refine R11 ?_;refine L6 rfl (fun hc => A5 rfl Tryz.call134 rfl (CJ5 _ _ qz8) (A2 (A9 rfl hc) (A2 (S8 (l := [46, 45, 44, 95]) rfl) B0))) ?_;refine R4 ?_;exact D6 rfl (A6 rfl qz9)
theorem AR2 (s : Str) (hs : s.length ≤ 4611686018427387904) : E1 94 [AV.str s] (AV.bool (n1 s)) := by
  refine B3 Tryz.func94 rfl Tryz.ntmps94 rfl ?_;refine R8 ?_;refine A1 rfl (A5 rfl Tryz.call24 rfl (P3 _ _ _) AJ2) ?_;refine R2 ?_;refine L6 rfl (fun hc => A5 rfl Tryz.call135 rfl (BZ8 _ _ qz8 F1) (A2 (A9 rfl hc) (A2 (S8 (l := [46, 47]) rfl) B0))) ?_;refine R4 ?_;exact D6 rfl (A6 rfl qz9)
theorem AU8 {p : Prop} (h : p := by
 refine B3 Ap6 rfl Ap7 rfl ?_;refine l7 (t := 0) rfl fun hl => ?_;try simp only [A7] at hl
 refine R12 ?_;refine F2 [(0, _), (1, _), (7, _)] _ (fun (i : Nat) => i ≤ l.length ∧ idxFrom f l 0 = idxFrom f (l.drop i) i) (fun i => []) (fun i => [(8, AV.int i)]) (fun i => l.length - i) (0) ?_ (G3 A8) ?_
 ·exact ⟨E2 _, rfl⟩
 intro i hinv;refine R5 ?_;refine A3 ?_ ?_
 ·intro h9;have k9 := C5 h9;have hlt : i < l.length := by omega
  obtain ⟨x, hx⟩ := B4 hlt;refine R13 ?_;refine A1 rfl (D3 rfl Ap8 Ap9 (A0 rfl) (A0 rfl) hx qz2) ?_;refine R1 ?_;refine A1 rfl (CU6 rfl (A0 rfl) x (hp x (C2 hx)) (A0 rfl)) ?_;refine R1 ?_;refine A3 ?_ ?_
  ·intro h16;refine R6 ?_;exact D6 rfl (A6 rfl qz67)
  intro h16;refine R5 ?_;refine G4 i (i + 1) ?_ ?_ (G3 A8)
  ·exact ⟨by omega, by rw [hinv.2, I8 hx, idxFrom, h16]; simp⟩
  omega
 intro h9;have k9 := B9 h9;have hge : l.length ≤ i := by omega
 refine R6 ?_;exact D6 rfl (A6 rfl qz67)) : p := h
namespace tw1n0
def Ap6 := @Tryz.func113
def Ap7 := @Tryz.ntmps113
def Ap8 := @Tryz.underlying24
def Ap9 := @Tryz.sizeOf78
end tw1n0
open tw1n0 in
theorem BW2 (l : List S9) (pre : S9 → Prop) (f : S9 → Bool) (hp : ∀ x ∈ l, pre x) : E1 113 [AV.list 1 (l.map S9.cs), AV.fun1 Tryz.prog pre (fun a => AV.agg a.cs) (fun a => AV.bool (f a))] (AV.int (idxFrom f l 0)) := AU8
theorem AU9 {p : Prop} (h : p := by
  refine B3 Aq0 rfl Aq1 rfl ?_;refine R8 ?_;refine A1 rfl (A5 rfl Aq2 rfl (Aq3 l pre f Ab8) F0) ?_;refine R4 ?_;exact D6 rfl (A6 rfl (by exact C3 AV.bool (BK2 f l 0 (Int.le_refl 0))))) : p := h
namespace tw2n0
def Aq0 := @Tryz.func66
def Aq1 := @Tryz.ntmps66
def Aq2 := @Tryz.call113
def Aq3 := @BW2
end tw2n0
open tw2n0 in
theorem BK6 (l : List S9) (pre : S9 → Prop) (f : S9 → Bool) (hp : ∀ x ∈ l, pre x) : E1 66 [AV.list 1 (l.map S9.cs), AV.fun1 Tryz.prog pre (fun a => AV.agg a.cs) (fun a => AV.bool (f a))] (AV.bool (l.any f)) := AU9
namespace tw1n1
def Ap6 := @Tryz.func92
def Ap7 := @Tryz.ntmps92
def Ap8 := @Tryz.underlying35
def Ap9 := @Tryz.sizeOf67
end tw1n1
open tw1n1 in
theorem Aq9 (l : List A4) (pre : A4 → Prop) (f : A4 → Bool) (hp : ∀ x ∈ l, pre x) : E1 92 [AV.list 3 (l.map A4.cs), AV.fun1 Tryz.prog pre (fun a => AV.agg a.cs) (fun a => AV.bool (f a))] (AV.int (idxFrom f l 0)) := AU8
namespace tw2n1
def Aq0 := @Tryz.func48
def Aq1 := @Tryz.ntmps48
def Aq2 := @Tryz.call92
def Aq3 := @Aq9
end tw2n1
open tw2n1 in
theorem AT0 (l : List A4) (pre : A4 → Prop) (f : A4 → Bool) (hp : ∀ x ∈ l, pre x) : E1 48 [AV.list 3 (l.map A4.cs), AV.fun1 Tryz.prog pre (fun a => AV.agg a.cs) (fun a => AV.bool (f a))] (AV.bool (l.any f)) := AU9
namespace tw1n2
def Ap6 := @Tryz.func139
def Ap7 := @Tryz.ntmps139
def Ap8 := @Tryz.underlying79
def Ap9 := @Tryz.sizeOf131
end tw1n2
open tw1n2 in
theorem BM7 (l : List E6) (pre : E6 → Prop) (f : E6 → Bool) (hp : ∀ x ∈ l, pre x) : E1 139 [AV.list 3 (l.map E6.cs), AV.fun1 Tryz.prog pre (fun a => AV.agg a.cs) (fun a => AV.bool (f a))] (AV.int (idxFrom f l 0)) := AU8
namespace tw2n2
def Aq0 := @Tryz.func106
def Aq1 := @Tryz.ntmps106
def Aq2 := @Tryz.call139
def Aq3 := @BM7
end tw2n2
open tw2n2 in
theorem BD7 (l : List E6) (pre : E6 → Prop) (f : E6 → Bool) (hp : ∀ x ∈ l, pre x) : E1 106 [AV.list 3 (l.map E6.cs), AV.fun1 Tryz.prog pre (fun a => AV.agg a.cs) (fun a => AV.bool (f a))] (AV.bool (l.any f)) := AU9
namespace tw1n3
def Ap6 := @Tryz.func142
def Ap7 := @Tryz.ntmps142
def Ap8 := @Tryz.underlying97
def Ap9 := @Tryz.sizeOf139
end tw1n3
open tw1n3 in
theorem Ba0 (l : List G2) (pre : G2 → Prop) (f : G2 → Bool) (hp : ∀ x ∈ l, pre x) : E1 142 [AV.list 3 (l.map G2.cs), AV.fun1 Tryz.prog pre (fun a => AV.agg a.cs) (fun a => AV.bool (f a))] (AV.int (idxFrom f l 0)) := AU8
namespace tw2n3
def Aq0 := @Tryz.func110
def Aq1 := @Tryz.ntmps110
def Aq2 := @Tryz.call142
def Aq3 := @Ba0
end tw2n3
open tw2n3 in
theorem BM8 (l : List G2) (pre : G2 → Prop) (f : G2 → Bool) (hp : ∀ x ∈ l, pre x) : E1 110 [AV.list 3 (l.map G2.cs), AV.fun1 Tryz.prog pre (fun a => AV.agg a.cs) (fun a => AV.bool (f a))] (AV.bool (l.any f)) := AU9
namespace tw1n4
def Ap6 := @Tryz.func41
def Ap7 := @Tryz.ntmps41
def Ap8 := @Tryz.underlying59
def Ap9 := @Tryz.sizeOf64
end tw1n4
open tw1n4 in
theorem Bh9 (l : List O3) (pre : O3 → Prop) (f : O3 → Bool) (hp : ∀ x ∈ l, pre x) : E1 41 [AV.list 3 (l.map O3.cs), AV.fun1 Tryz.prog pre (fun a => AV.agg a.cs) (fun a => AV.bool (f a))] (AV.int (idxFrom f l 0)) := AU8
namespace tw2n4
def Aq0 := @Tryz.func18
def Aq1 := @Tryz.ntmps18
def Aq2 := @Tryz.call41
def Aq3 := @Bh9
end tw2n4
open tw2n4 in
theorem BS4 (l : List O3) (pre : O3 → Prop) (f : O3 → Bool) (hp : ∀ x ∈ l, pre x) : E1 18 [AV.list 3 (l.map O3.cs), AV.fun1 Tryz.prog pre (fun a => AV.agg a.cs) (fun a => AV.bool (f a))] (AV.bool (l.any f)) := AU9
namespace tw1n5
def Ap6 := @Tryz.func293
def Ap7 := @Tryz.ntmps293
def Ap8 := @Tryz.underlying55
def Ap9 := @Tryz.sizeOf239
end tw1n5
open tw1n5 in
theorem Ba1 (l : List D1) (pre : D1 → Prop) (f : D1 → Bool) (hp : ∀ x ∈ l, pre x) : E1 293 [AV.list 5 (l.map D1.cs), AV.fun1 Tryz.prog pre (fun a => AV.agg a.cs) (fun a => AV.bool (f a))] (AV.int (idxFrom f l 0)) := AU8
namespace tw2n5
def Aq0 := @Tryz.func249
def Aq1 := @Tryz.ntmps249
def Aq2 := @Tryz.call293
def Aq3 := @Ba1
end tw2n5
open tw2n5 in
theorem BM9 (l : List D1) (pre : D1 → Prop) (f : D1 → Bool) (hp : ∀ x ∈ l, pre x) : E1 249 [AV.list 5 (l.map D1.cs), AV.fun1 Tryz.prog pre (fun a => AV.agg a.cs) (fun a => AV.bool (f a))] (AV.bool (l.any f)) := AU9
namespace tw1n6
def Ap6 := @Tryz.func210
def Ap7 := @Tryz.ntmps210
def Ap8 := @Tryz.underlying99
def Ap9 := @Tryz.sizeOf183
end tw1n6
open tw1n6 in
theorem Bn1 (l : List TOp) (pre : TOp → Prop) (f : TOp → Bool) (hp : ∀ x ∈ l, pre x) : E1 210 [AV.list 4 (l.map TOp.cs), AV.fun1 Tryz.prog pre (fun a => AV.agg a.cs) (fun a => AV.bool (f a))] (AV.int (idxFrom f l 0)) := AU8
namespace tw2n6
def Aq0 := @Tryz.func168
def Aq1 := @Tryz.ntmps168
def Aq2 := @Tryz.call210
def Aq3 := @Bn1
end tw2n6
open tw2n6 in
theorem BW3 (l : List TOp) (pre : TOp → Prop) (f : TOp → Bool) (hp : ∀ x ∈ l, pre x) : E1 168 [AV.list 4 (l.map TOp.cs), AV.fun1 Tryz.prog pre (fun a => AV.agg a.cs) (fun a => AV.bool (f a))] (AV.bool (l.any f)) := AU9
namespace tw1n7
def Ap6 := @Tryz.func171
def Ap7 := @Tryz.ntmps171
def Ap8 := @Tryz.underlying100
def Ap9 := @Tryz.sizeOf145
end tw1n7
open tw1n7 in
theorem Bi0 (l : List K8) (pre : K8 → Prop) (f : K8 → Bool) (hp : ∀ x ∈ l, pre x) : E1 171 [AV.list 3 (l.map K8.cs), AV.fun1 Tryz.prog pre (fun a => AV.agg a.cs) (fun a => AV.bool (f a))] (AV.int (idxFrom f l 0)) := AU8
namespace tw2n7
def Aq0 := @Tryz.func144
def Aq1 := @Tryz.ntmps144
def Aq2 := @Tryz.call171
def Aq3 := @Bi0
end tw2n7
open tw2n7 in
theorem BS5 (l : List K8) (pre : K8 → Prop) (f : K8 → Bool) (hp : ∀ x ∈ l, pre x) : E1 144 [AV.list 3 (l.map K8.cs), AV.fun1 Tryz.prog pre (fun a => AV.agg a.cs) (fun a => AV.bool (f a))] (AV.bool (l.any f)) := AU9
namespace tw1n8
def Ap6 := @Tryz.func114
def Ap7 := @Tryz.ntmps114
def Ap8 := @Tryz.underlying29
def Ap9 := @Tryz.sizeOf102
end tw1n8
open tw1n8 in
theorem BK7 (l : List B2) (pre : B2 → Prop) (f : B2 → Bool) (hp : ∀ x ∈ l, pre x) : E1 114 [AV.list 10 (l.map B2.cs), AV.fun1 Tryz.prog pre (fun a => AV.agg a.cs) (fun a => AV.bool (f a))] (AV.int (idxFrom f l 0)) := AU8
namespace tw2n8
def Aq0 := @Tryz.func69
def Aq1 := @Tryz.ntmps69
def Aq2 := @Tryz.call114
def Aq3 := @BK7
end tw2n8
open tw2n8 in
theorem Az8 (l : List B2) (pre : B2 → Prop) (f : B2 → Bool) (hp : ∀ x ∈ l, pre x) : E1 69 [AV.list 10 (l.map B2.cs), AV.fun1 Tryz.prog pre (fun a => AV.agg a.cs) (fun a => AV.bool (f a))] (AV.bool (l.any f)) := AU9
namespace tw1n9
def Ap6 := @Tryz.func120
def Ap7 := @Tryz.ntmps120
def Ap8 := @Tryz.underlying30
def Ap9 := @Tryz.sizeOf105
end tw1n9
open tw1n9 in
theorem BF3 (l : List B6) (pre : B6 → Prop) (f : B6 → Bool) (hp : ∀ x ∈ l, pre x) : E1 120 [AV.list 6 (l.map B6.cs), AV.fun1 Tryz.prog pre (fun a => AV.agg a.cs) (fun a => AV.bool (f a))] (AV.int (idxFrom f l 0)) := AU8
namespace tw2n9
def Aq0 := @Tryz.func72
def Aq1 := @Tryz.ntmps72
def Aq2 := @Tryz.call120
def Aq3 := @BF3
end tw2n9
open tw2n9 in
theorem Ax3 (l : List B6) (pre : B6 → Prop) (f : B6 → Bool) (hp : ∀ x ∈ l, pre x) : E1 72 [AV.list 6 (l.map B6.cs), AV.fun1 Tryz.prog pre (fun a => AV.agg a.cs) (fun a => AV.bool (f a))] (AV.bool (l.any f)) := AU9
namespace tw1n10
def Ap6 := @Tryz.func146
def Ap7 := @Tryz.ntmps146
def Ap8 := @Tryz.underlying28
def Ap9 := @Tryz.sizeOf3
end tw1n10
open tw1n10 in
theorem Bi1 (l : List Int) (pre : Int → Prop) (f : Int → Bool) (hp : ∀ x ∈ l, pre x) : E1 146 [ints l, AV.fun1 Tryz.prog pre (fun a => AV.int a) (fun a => AV.bool (f a))] (AV.int (idxFrom f l 0)) := AU8
namespace tw2n10
def Aq0 := @Tryz.func117
def Aq1 := @Tryz.ntmps117
def Aq2 := @Tryz.call146
def Aq3 := @Bi1
end tw2n10
open tw2n10 in
theorem BS6 (l : List Int) (pre : Int → Prop) (f : Int → Bool) (hp : ∀ x ∈ l, pre x) : E1 117 [ints l, AV.fun1 Tryz.prog pre (fun a => AV.int a) (fun a => AV.bool (f a))] (AV.bool (l.any f)) := AU9
theorem Bg4 {p : Prop} (h : p := by
 refine B3 CT3 rfl CT4 rfl ?_;refine l7 (t := 0) rfl fun hl => ?_;try simp only [A7] at hl
 refine R19 ?_;refine J0 [(0, _), (1, _), (2, _), (6, _), (7, _), (8, _)] _ (fun (i : Nat) (j : Nat) => i ≤ j ∧ j ≤ l.length ∧ bs (fun x => f x v) l 0 l.length = bs (fun x => f x v) l i j) (fun i j => []) (fun i j => [(9, AV.int i), (10, AV.int j)]) (fun i j => j - i) (0) ((l.map CT5).length) ?_ (G3 A8) ?_
 ·exact ⟨E2 _, by simp, by simp⟩
 intro i j hinv;refine R7 ?_;refine A3 ?_ ?_
 ·intro h17;have k17 := C5 h17;have hlt : i < j := by omega
  obtain ⟨x, hx⟩ := B4 (show (i + j) / 2 < l.length by omega);refine R6 ?_;refine A1 rfl (BX1 rfl (A0 rfl) (A0 rfl) qz8) ?_;refine A1 rfl (Ah9 rfl D4 Tryz.underlying127 (A0 rfl)) ?_;refine A1 rfl (w_shr rfl (A0 rfl) L1 F1 F1) ?_;refine A1 rfl (Ah9 rfl D4 o6 (A0 rfl)) ?_;refine R4 ?_;rw [half_eq qz8];refine R3 ?_;refine A1 rfl (D3 rfl By9 Bz0 (A0 rfl) (A0 rfl) hx qz2) ?_;refine R2 ?_;refine A1 rfl (CU7 rfl (A0 rfl) x v (hp x (C2 hx)) (A0 rfl) (A0 rfl)) ?_;refine R2 ?_;refine A3 ?_ ?_
  ·intro h31;have k31 := C5 h31;refine R5 ?_;refine Am5 ?_;refine G8 i j ((i + j) / 2 + 1) (j) ?_ ?_ (G3 A8)
   ·exact ⟨by omega, by omega, by rw [hinv.2.2, bs_lo hlt hx k31]⟩
   omega
  intro h31;have k31 := B9 h31;refine R4 ?_;refine Am5 ?_;refine G8 i j (i) ((i + j) / 2) ?_ ?_ (G3 A8)
  ·exact ⟨by omega, by omega, by rw [hinv.2.2, bs_hi hlt hx k31]⟩
  omega
 intro h17;have k17 := B9 h17;have hge : bs (fun x => f x v) l 0 l.length = i := by rw [hinv.2.2, CW7 qz8]
 obtain ⟨y, hy⟩ := BB6 l i;refine R11 ?_;refine L6 rfl (fun hc => D3 rfl By9 Bz0 (A9 rfl hc) (A9 rfl hc) (hy qz6) rfl) ?_;refine R2 ?_;refine L6 rfl (fun hc => CU7 rfl (A9 rfl hc) y v (hp y (C2 (hy qz6))) (A9 rfl hc) (A9 rfl hc)) ?_;refine R6 ?_;exact f7 rfl F1 (I3 (A6 rfl qz86) (I3 (A6 rfl qz86) AB5))) : p := h
namespace tw3n0
def CT3 := @Tryz.func42
def CT4 := @Tryz.ntmps42
@[reducible] def CT5 := @A4.cs
def By9 := @Tryz.underlying35
def Bz0 := @Tryz.sizeOf67
end tw3n0
open tw3n0 in
theorem BK8 (l : List A4) (v : Str) (pre : A4 → Str → Prop) (hp : ∀ x ∈ l, pre x v) (f : A4 → Str → Int) (hl2 : l.length ≤ 4611686018427387903) : E1 42 [AV.list 3 (l.map A4.cs), AV.str v, AV.fun2 Tryz.prog pre (fun a => AV.agg a.cs) (fun b => AV.str b) (fun a b => AV.int (f a b))] (AV.tup [AV.int (bs (fun x => f x v) l 0 l.length), AV.bool (Ae6 (fun x => f x v) l (bs (fun x => f x v) l 0 l.length))]) := Bg4
namespace tw3n1
def CT3 := @Tryz.func312
def CT4 := @Tryz.ntmps312
@[reducible] def CT5 := @B1.cs
def By9 := @Tryz.underlying54
def Bz0 := @Tryz.sizeOf61
end tw3n1
open tw3n1 in
theorem BN0 (l : List B1) (v : Str) (pre : B1 → Str → Prop) (hp : ∀ x ∈ l, pre x v) (f : B1 → Str → Int) (hl2 : l.length ≤ 4611686018427387903) : E1 312 [AV.list 2 (l.map B1.cs), AV.str v, AV.fun2 Tryz.prog pre (fun a => AV.agg a.cs) (fun b => AV.str b) (fun a b => AV.int (f a b))] (AV.tup [AV.int (bs (fun x => f x v) l 0 l.length), AV.bool (Ae6 (fun x => f x v) l (bs (fun x => f x v) l 0 l.length))]) := Bg4
namespace tw3n2
def CT3 := @Tryz.func247
def CT4 := @Tryz.ntmps247
@[reducible] def CT5 := @D1.cs
def By9 := @Tryz.underlying55
def Bz0 := @Tryz.sizeOf239
end tw3n2
open tw3n2 in
theorem BN1 (l : List D1) (v : Int) (pre : D1 → Int → Prop) (hp : ∀ x ∈ l, pre x v) (f : D1 → Int → Int) (hl2 : l.length ≤ 4611686018427387903) : E1 247 [AV.list 5 (l.map D1.cs), AV.int v, AV.fun2 Tryz.prog pre (fun a => AV.agg a.cs) (fun b => AV.int b) (fun a b => AV.int (f a b))] (AV.tup [AV.int (bs (fun x => f x v) l 0 l.length), AV.bool (Ae6 (fun x => f x v) l (bs (fun x => f x v) l 0 l.length))]) := Bg4
namespace tw3n3
def CT3 := @Tryz.func241
def CT4 := @Tryz.ntmps241
@[reducible] def CT5 := @N1.cs
def By9 := @Tryz.underlying56
def Bz0 := @Tryz.sizeOf244
end tw3n3
open tw3n3 in
theorem BN2 (l : List N1) (v : Int) (pre : N1 → Int → Prop) (hp : ∀ x ∈ l, pre x v) (f : N1 → Int → Int) (hl2 : l.length ≤ 4611686018427387903) : E1 241 [AV.list 3 (l.map N1.cs), AV.int v, AV.fun2 Tryz.prog pre (fun a => AV.agg a.cs) (fun b => AV.int b) (fun a b => AV.int (f a b))] (AV.tup [AV.int (bs (fun x => f x v) l 0 l.length), AV.bool (Ae6 (fun x => f x v) l (bs (fun x => f x v) l 0 l.length))]) := Bg4
theorem Bn2 (l : List Str) (v : Str) : E1 337 [strs l, AV.str v] (AV.int (idxFrom (fun x => v == x) l 0)) := by
 refine B3 Tryz.func337 rfl Tryz.ntmps337 rfl ?_;refine l7 (t := 0) rfl fun hl => ?_;try simp only [A7] at hl
 refine R12 ?_;refine F2 [(0, _), (1, _), (7, _)] _ (fun (i : Nat) => i ≤ l.length ∧ idxFrom (fun x => v == x) l 0 = idxFrom (fun x => v == x) (l.drop i) i) (fun i => []) (fun i => [(8, AV.int i)]) (fun i => l.length - i) (0) ?_ (G3 A8) ?_
 ·exact ⟨E2 _, rfl⟩
 intro i hinv;refine R5 ?_;refine A3 ?_ ?_
 ·intro h9;have k9 := C5 h9;have hlt : i < l.length := by omega
  obtain ⟨x, hx⟩ := B4 hlt;refine R13 ?_;refine A1 rfl (D3 rfl E3 I2 (A0 rfl) (A0 rfl) hx qz2) ?_;refine R3 ?_;refine A3 ?_ ?_
  ·intro h16;refine R6 ?_;exact D6 rfl (A6 rfl qz67)
  intro h16;refine R5 ?_;refine G4 i (i + 1) ?_ ?_ (G3 A8)
  ·exact ⟨by omega, by rw [hinv.2, I8 hx, idxFrom, h16]; simp⟩
  omega
 intro h9;have k9 := B9 h9;have hge : l.length ≤ i := by omega
 refine R6 ?_;exact D6 rfl (A6 rfl qz67)
theorem BW4 (l : List Str) (v : Str) : E1 319 [strs l, AV.str v] (AV.bool (l.any fun x => v == x)) := by
  refine B3 Tryz.func319 rfl Tryz.ntmps319 rfl ?_;refine R8 ?_;refine A1 rfl (A5 rfl Tryz.call337 rfl (Bn2 _ _) F0) ?_;refine R4 ?_;exact D6 rfl (A6 rfl (by exact C3 AV.bool (BK2 (fun x => v == x) l 0 (Int.le_refl 0))))
theorem BB8 {p : Prop} (h : p := by
 refine C8 Bh1 rfl Bh2 rfl ?_;refine Cg9 0 rfl ?_ ?_
 ·intro hnil;have hn : l = [] := by cases l with | nil => rfl | cons x l => simp at hnil
  subst hn;refine R2 ?_;refine c7 BI8 BI9 rfl rfl rfl rfl I9 ?_;intro v2;refine R5 ?_;refine A1 rfl (w_eqnil rfl BB1 (A0 rfl)) ?_;refine R1 ?_;refine A3 ?_ ?_
  ·intro h4;refine R2 ?_;refine c7 BI8 BI9 rfl rfl rfl rfl I9 ?_;intro v2;refine R2 ?_;exact I4 [0] v2 (trivial) rfl C1 (M4 rfl (A6 rfl qz9))
  intro h4
  cases h4
 skip
 refine R2 ?_;refine c7 BI8 BI9 rfl rfl rfl rfl I9 ?_;intro v2;refine R5 ?_;refine A1 rfl (w_eqnnl rfl BB1 (A0 rfl)) ?_;refine R1 ?_;refine A3 ?_ ?_
 ·intro h4
  cases h4
 intro h4;refine R3 ?_;refine P6 rfl rfl rfl rfl BB1 Bh3 ?_;intro v5;refine R1 ?_;refine H4 (by' := BJ0) 0 rfl rfl rfl rfl BB1 Bh4 rfl rfl rfl rfl rfl rfl (A0 rfl) (AQ2 (A0 rfl) nnl_list) rfl (by first | ((try unfold BJ0); omega) | (simp only [CS5, V8, szR] at *; ((try unfold BJ0); omega))) ?_;intro v7_1;refine R3 ?_;exact I4 [0] v7_1 (trivial) rfl C1 (M4 rfl (A6 rfl qz9))) : p := h
namespace tw4n0
def Bh1 := @Tryz.func77
def Bh2 := @Tryz.ntmps77
@[reducible] def BI8 : Nat := 67
@[reducible] def BI9 : Nat := 3
def BB1 := @Tryz.underlying35
def Bh3 := @Tryz.sizeOf67
@[reducible] def BJ0 : Nat := 40
def Bh4 := @Tryz.type67
end tw4n0
open tw4n0 in
theorem BH5 (l : List A4) (hl : l.length ≤ 4194304) : M1 77 [AV.list 3 (l.map A4.cs)] [] (fun _ : Value => True) (fun v => [.arr v 67 3 (l.map A4.cs)]) (fun v => AV.is v) := BB8
namespace tw4n1
def Bh1 := @Tryz.func284
def Bh2 := @Tryz.ntmps284
@[reducible] def BI8 : Nat := 64
@[reducible] def BI9 : Nat := 3
def BB1 := @Tryz.underlying59
def Bh3 := @Tryz.sizeOf64
@[reducible] def BJ0 : Nat := 32
def Bh4 := @Tryz.type64
end tw4n1
open tw4n1 in
theorem CN8 (l : List O3) (hl : l.length ≤ 4194304) : M1 284 [AV.list 3 (l.map O3.cs)] [] (fun _ : Value => True) (fun v => [.arr v 64 3 (l.map O3.cs)]) (fun v => AV.is v) := BB8
namespace tw4n2
def Bh1 := @Tryz.func283
def Bh2 := @Tryz.ntmps283
@[reducible] def BI8 : Nat := 61
@[reducible] def BI9 : Nat := 2
def BB1 := @Tryz.underlying54
def Bh3 := @Tryz.sizeOf61
@[reducible] def BJ0 : Nat := 40
def Bh4 := @Tryz.type61
end tw4n2
open tw4n2 in
theorem CC4 (l : List B1) (hl : l.length ≤ 4194304) : M1 283 [AV.list 2 (l.map B1.cs)] [] (fun _ : Value => True) (fun v => [.arr v 61 2 (l.map B1.cs)]) (fun v => AV.is v) := BB8
namespace tw4n3
def Bh1 := @Tryz.func253
def Bh2 := @Tryz.ntmps253
@[reducible] def BI8 : Nat := 239
@[reducible] def BI9 : Nat := 5
def BB1 := @Tryz.underlying55
def Bh3 := @Tryz.sizeOf239
@[reducible] def BJ0 : Nat := 72
def Bh4 := @Tryz.type239
end tw4n3
open tw4n3 in
theorem CC5 (l : List D1) (hl : l.length ≤ 4194304) : M1 253 [AV.list 5 (l.map D1.cs)] [] (fun _ : Value => True) (fun v => [.arr v 239 5 (l.map D1.cs)]) (fun v => AV.is v) := BB8
namespace tw4n4
def Bh1 := @Tryz.func239
def Bh2 := @Tryz.ntmps239
@[reducible] def BI8 : Nat := 244
@[reducible] def BI9 : Nat := 3
def BB1 := @Tryz.underlying56
def Bh3 := @Tryz.sizeOf244
@[reducible] def BJ0 : Nat := 24
def Bh4 := @Tryz.type244
end tw4n4
open tw4n4 in
theorem BN3 (l : List N1) (hl : l.length ≤ 4194304) : M1 239 [AV.list 3 (l.map N1.cs)] [] (fun _ : Value => True) (fun v => [.arr v 244 3 (l.map N1.cs)]) (fun v => AV.is v) := BB8
namespace tw4n5
def Bh1 := @Tryz.func256
def Bh2 := @Tryz.ntmps256
@[reducible] def BI8 : Nat := 9
@[reducible] def BI9 : Nat := 1
def BB1 := @Tryz.underlying25
def Bh3 := @Tryz.sizeOf9
@[reducible] def BJ0 : Nat := 16
def Bh4 := @Tryz.type9
end tw4n5
open tw4n5 in
theorem Bn3 (l : List Str) (hl : l.length ≤ 4194304) : M1 256 [strs l] [] (fun _ : Value => True) (fun v => [.arr v 9 1 (l.map (fun x => [AV.str x]))]) (fun v => AV.is v) := BB8
theorem BW5 (v : Value) (l : List A4) (pre : A4 → Prop) (f : A4 → Bool) (hp : ∀ x ∈ l, pre x) (hl : l.length ≤ 4194304) : M1 78 [AV.is v, AV.fun1 Tryz.prog pre (fun a => AV.agg a.cs) (fun a => AV.bool (f a))] [.arr v 67 3 (l.map A4.cs)] (fun _ : Value => True) (fun v => [.arr v 67 3 ((l.filter fun x => !f x).map A4.cs)]) (fun v => AV.is v) := by
 refine C8 Tryz.func78 rfl Tryz.ntmps78 rfl ?_;refine R2 ?_;refine A1 rfl (G1 rfl I9) ?_;refine R5 ?_;refine A1 rfl (l8 rfl Tryz.call92 rfl (Aq9 _ _ _ Ab8) (d4 _ _) (P1 (Al1 0 (A0 rfl) rfl) (P1 (evb (A0 rfl)) m8))) ?_;refine R8 ?_;refine A3 ?_ ?_
 ·intro h12;have k12 := J9 h12;(try simp only [A7] at k12);have hall : l.filter (fun x => !f x) = l := by rcases BD2 f l 0 with h | ⟨n, x, h1, _⟩; exact h.2; (exfalso; have := k12; rw [show ((0 : Nat) : Int) = 0 from rfl] at h1; omega)
  refine R6 ?_;exact I4 [0] v (trivial) rfl qz120 (M4 rfl (A6 rfl qz9))
 intro h12;have k12 := J5 h12;(try simp only [A7] at k12);obtain ⟨n, x0, hn, hx0, htk⟩ : ∃ (n : Nat) (x : A4), idxFrom f l 0 = (n : Int) ∧ l[n]? = some x ∧ l.take n = (l.take (n + 1)).filter (fun x => !f x) := by rcases BD2 f l 0 with h | ⟨n, x, h1, h2, h3⟩; exact absurd h.1 k12; exact ⟨n, x, by rw [show ((0 : Nat) : Int) = 0 from rfl] at h1; omega, h2, h3⟩
 rw [hn];have hnl : n < l.length := (E9.1 hx0).1;refine R9 ?_;refine W7 [(0, _), (1, _), (4, _)] _ (fun (i : Nat) (j : Nat) (m : List A4) => i < j ∧ j ≤ l.length ∧ m.length = l.length ∧ m.take i = (l.take j).filter (fun x => !f x) ∧ m.drop j = l.drop j) (fun i j m => [.arr v 67 3 (m.map A4.cs)]) (fun i j m => [(5, AV.int i), (6, AV.int j)]) (fun i j m => l.length - j) (n) (n + 1) (l) ?_ (K1 C1 A8) ?_
 ·exact ⟨by omega, by omega, rfl, htk, rfl⟩
 intro i j m hinv;refine R8 ?_;refine A3 ?_ ?_
 ·intro h19;have k19 := C5 h19;have hlt : j < l.length := by omega
  obtain ⟨x, hx⟩ := B4 hlt;have hmx := Ch3 hinv.2.2.2.2 hx;refine R7 ?_;refine A1 rfl (H6 0 rfl D7 H0 (A0 rfl) rfl (A0 rfl) qz8 AB7) ?_;refine A1 rfl (n6 0 rfl (A0 rfl) rfl Tryz.isAgg67 H0 (by simp only [l4, X2, hmx, r6]; rfl) F1) ?_;refine R1 ?_;intro b7;refine R6 ?_;refine A1 rfl (CU6 rfl (A0 rfl) x (hp x (C2 hx)) (A0 rfl)) ?_;refine R2 ?_;refine A3 ?_ ?_
  ·intro h29;refine R5 ?_;refine A1 rfl (H6 1 rfl D7 H0 (A0 rfl) rfl (A0 rfl) qz8 AB7) ?_;refine j7 1 rfl rfl rfl (A0 rfl) (A0 rfl) (Z2 _) rfl H0 rfl Be8 ?_;refine R11 ?_;refine S7 i j m (i + 1) (j + 1) (m.set i x) ?_ ?_ (E5 1 (by first | exact C3 (fun z => [Own.arr v 67 3 z]) (AB0).symm | rfl) A8)
   ·(have hd := del_keep (p := fun x => !f x) hinv.2.2.1 qz8 hx hinv.2.2.2.1 hinv.2.2.2.2 h29; exact ⟨by omega, by omega, hd.2.2, hd.1, hd.2.1⟩)
   omega
  intro h29;refine R6 ?_;refine S7 i j m (i) (j + 1) (m) ?_ ?_ (E5 1 (by first | exact C3 (fun z => [Own.arr v 67 3 z]) (AB0).symm | rfl) A8)
  ·(have hd := del_skip (p := fun x => !f x) hx hinv.2.2.2.1 hinv.2.2.2.2 h29; exact ⟨by omega, by omega, hinv.2.2.1, hd.1, hd.2⟩)
  omega
 intro h19;have k19 := B9 h19;have hge : l.length ≤ j := by omega
 refine R5 ?_;refine A1 rfl (Bf6 0 rfl D7 H0 (A0 rfl) rfl (A0 rfl) qz8 AB7) ?_;refine CH0 0 rfl rfl rfl D7 Tryz.zeroValue67 rfl rfl F1 (A0 rfl) rfl Be8 ?_;refine R5 ?_;refine CV4 0 rfl rfl rfl rfl D7 H0 (A0 rfl) rfl (A0 rfl) qz8 (by simp only [A7, H3, F4, AT9]; omega) ?_;intro v41_1;refine R3 ?_;exact I4 [0] v41_1 (trivial) rfl qz120 (M4 rfl (A6 rfl qz9))
theorem CC6 {p : Prop} (h : p := by
 have hn : (l.map BB2).length = l.length := A7 _;have h1 : ([BB2 x] : List (List AV)).length = 1 := rfl;have e28 : ((l.map BB2).length : Int) + (([BB2 x] : List (List AV)).length : Int) = ((l.length + 1 : Nat) : Int) := by rw [hn, h1]; rfl
 have e49 : (i : Int) + (([BB2 x] : List (List AV)).length : Int) = ((i + 1 : Nat) : Int) := by rw [h1]; rfl
 have e39 : ((l.length + 1 : Nat) : Int) - (i : Int) = ((l.length + 1 - i : Nat) : Int) := by omega
 refine C8 tw5x1 rfl tw5x2 rfl ?_;refine Ak2 0 rfl ?_ ?_
 ·intro hv hes; subst hv;have hl0 : l = [] := by cases l with | nil => rfl | cons y l => (simp at hes)
  subst hl0;have hi0 : i = 0 := by simpa using hi
  subst hi0;refine Ak2 1 rfl (fun _ h => by cases h) ?_;intro gv cv hvv _ _;subst hvv;refine R2 ?_;refine A1 rfl (G1 rfl I9) ?_;refine R5 ?_;refine A1 rfl (Bf6 0 rfl AE0 Ab3 (A0 rfl) rfl (A0 rfl) qz2 qz2) ?_;refine R4 ?_;refine A1 rfl (Am7 rfl AE0 (A0 rfl)) ?_;refine R8 ?_;refine A3 ?_ ?_
  ·intro h16;have k16 := J9 h16;(try simp only [A7] at k16);rw [h1] at k16; omega
  intro h16;have k16 := J5 h16;(try simp only [A7] at k16);refine R14 ?_;refine A3 ?_ ?_
  ·intro h22;have k22 := J9 h22;(try simp only [A7] at k22);refine R4 ?_;refine Az6 (by' := BJ1) 0 rfl rfl rfl rfl AE0 BB3 rfl rfl rfl rfl rfl rfl (A0 rfl) (AX5 1 rfl (A0 rfl)) Z1 rfl (by simp only [A7, H8, Q1]; ((try unfold BJ1); omega)) ?_;intro v25;refine R3 ?_;exact I4 [0] v25 (trivial) rfl CS2 (M4 rfl (A6 rfl BF7))
  intro h22;have k22 := J5 h22;(try simp only [A7] at k22);exact absurd rfl k22
 intro g cap hv hlc hcm; subst hv;refine Ak2 1 rfl (fun _ h => by cases h) ?_;intro gv cv hvv _ _;subst hvv;refine R2 ?_;refine A1 rfl (G1 rfl I9) ?_;refine R5 ?_;refine A1 rfl (AQ6 rfl AE0 Ab3 (A0 rfl) (A0 rfl) qz2 qz2) ?_;refine R4 ?_;refine A1 rfl (Am7 rfl AE0 (A0 rfl)) ?_;refine R8 ?_;refine A3 ?_ ?_
 ·intro h16;have k16 := J9 h16;(try simp only [A7] at k16);rw [h1] at k16; omega
 intro h16;have k16 := J5 h16;(try simp only [A7] at k16);refine R4 ?_;refine A1 rfl (Am7 rfl AE0 (A0 rfl)) ?_;refine R9 ?_;refine A3 ?_ ?_
 ·intro h22;have k22 := J9 h22;(try simp only [A7] at k22);refine R4 ?_;refine Az6 (by' := BJ1) 0 rfl rfl rfl rfl AE0 BB3 rfl rfl rfl rfl rfl rfl (A0 rfl) (AX5 1 rfl (A0 rfl)) Z1 rfl (by simp only [A7, H8, Q1]; ((try unfold BJ1); omega)) ?_;intro v25;refine R3 ?_;exact I4 [0] v25 (trivial) rfl CS2 (M4 rfl (A6 rfl BF7))
 intro h22;have k22 := J5 h22;(try simp only [A7] at k22);refine R7 ?_;rw [e28];refine R1 ?_;refine A1 rfl (w_vcap rfl AE0 (A0 rfl)) ?_;refine R2 ?_;refine A3 ?_ ?_
 ·intro h31;have k31 := C5 h31;refine R4 ?_;refine A1 rfl (Br3 rfl AE0 Ab3 (A0 rfl) (A0 rfl) qz8 (by rw [hn] at hlc; omega)) ?_;refine R3 ?_;rw [e28];refine R2 ?_;rw [e39, l4];refine Br4 (by' := BJ1) (j := i) (m := l.length + 1 - i) 0 rfl rfl rfl rfl AE0 o6 BB3 rfl rfl rfl rfl rfl rfl (A0 rfl) (A0 rfl) rfl (by rw [hn]; exact hi) CR6 CR6 CR6 CR6 ?_;intro g2 cap2 hcap2;refine R6 ?_;refine A1 rfl (AQ6 rfl AE0 Ab3 (A0 rfl) (A0 rfl) qz2 qz2) ?_;refine R1 ?_;rw [l4];refine BB5 (k := i) 0 rfl rfl rfl rfl AE0 BB3 rfl (A0 rfl) (AX5 2 rfl (A0 rfl)) rfl (by rw [h1]; omega) (by rw [h1]; omega) hcap2 Z1 ?_;refine R2 ?_;refine M6 8 D4 D4 rfl ?_;refine R4 ?_;rw [e49];refine C0 rfl rfl (AQ6 rfl AE0 Ab3 (A0 rfl) (A0 rfl) qz2 qz2) ?_;refine R2 ?_;refine C0 rfl rfl (AQ6 rfl AE0 Ab3 (A0 rfl) (A0 rfl) qz2 qz2) ?_;refine R1 ?_;simp only [l4];refine BB5 (k := i + 1) 0 rfl rfl rfl rfl AE0 BB3 rfl (A0 rfl) (CB6 1 rfl (A0 rfl)) rfl (by rw [p7, hn]; omega) (by rw [p7, hn]; omega) hcap2 qz183 ?_;refine R7 ?_;exact I4 [0] (slv g2 (i + (l.length + 1 - i)) cap2) (trivial) rfl CS2 (M4 rfl (A6 rfl BF7))
 intro h31;have k31 := B9 h31;refine R7 ?_;rw [e28];refine A1 rfl (Br3 rfl AE0 Ab3 (A0 rfl) (A0 rfl) qz2 qz2) ?_;rw [l4];refine R10 ?_;rw [e49];refine A1 rfl (AQ6 rfl AE0 Ab3 (A0 rfl) (A0 rfl) qz2 qz2) ?_;rw [l4];refine A1 rfl (Bi9 (tb := 4) 1 0 rfl tw5x9 D4 D4 D4 D4 AE0 Ab3 (A0 rfl) (A0 rfl) rfl rfl rfl qz8 rfl) ?_;refine R2 ?_;refine A3 ?_ ?_
 ·intro h68;refine R1 ?_;refine M6 8 D4 D4 rfl ?_;refine R4 ?_;rw [e49];refine C0 rfl rfl (AQ6 rfl AE0 Ab3 (A0 rfl) (A0 rfl) qz2 qz2) ?_;refine R2 ?_;refine C0 rfl rfl (AQ6 rfl AE0 Ab3 (A0 rfl) (A0 rfl) qz2 qz2) ?_;refine R1 ?_;simp only [l4];refine CW0 (k := i) (len := (l.map BB2).length) 0 rfl rfl rfl rfl AE0 BB3 rfl (by rw [hn]; exact A0 rfl) (by rw [hn]; exact A0 rfl) rfl qz8 qz8 ?_;intro j77;refine R5 ?_;refine A1 rfl (AQ6 rfl AE0 Ab3 (A0 rfl) (A0 rfl) qz2 qz2) ?_;refine R1 ?_;rw [l4];refine BB5 (k := i) 0 rfl rfl rfl rfl AE0 BB3 rfl (A0 rfl) (AX5 1 rfl (A0 rfl)) rfl (by rw [h1, hn]; omega) (by rw [h1]; omega) qz8 Z1 ?_;refine R7 ?_;exact I4 [0] (slv g ((l.map BB2).length + 1) cap) (trivial) rfl CS2 (M4 rfl (A6 rfl BF7))
 intro h68
 cases h68) : p := h
namespace tw5n0
@[reducible] def BB2 := @A4.cs
def tw5x1 := @Tryz.func45
def tw5x2 := @Tryz.ntmps45
def AE0 := @Tryz.underlying35
def Ab3 := @Tryz.sizeOf67
@[reducible] def BJ1 : Nat := 40
def BB3 := @Tryz.type67
@[reducible] def tw5x7 : Nat := 67
@[reducible] def tw5x8 : Nat := 3
def tw5x9 := @Tryz.func89
end tw5n0
open tw5n0 in
theorem Bt0 (v vv : Value) (l : List A4) (x : A4) (i : Nat) (hi : i ≤ l.length) (hl : l.length ≤ 4194304) : M1 45 [AV.is v, AV.int i, AV.is vv] [.arr v 67 3 (l.map A4.cs), .arr vv 67 3 [A4.cs x]] (fun _ : Value => True) (fun v => [.arr v 67 3 ((l.take i ++ x :: l.drop i).map A4.cs)]) (fun v => AV.is v) := CC6
namespace tw5n1
@[reducible] def BB2 := @D1.cs
def tw5x1 := @Tryz.func197
def tw5x2 := @Tryz.ntmps197
def AE0 := @Tryz.underlying55
def Ab3 := @Tryz.sizeOf239
@[reducible] def BJ1 : Nat := 72
def BB3 := @Tryz.type239
@[reducible] def tw5x7 : Nat := 239
@[reducible] def tw5x8 : Nat := 5
def tw5x9 := @Tryz.func254
end tw5n1
open tw5n1 in
theorem CC7 (v vv : Value) (l : List D1) (x : D1) (i : Nat) (hi : i ≤ l.length) (hl : l.length ≤ 4194304) : M1 197 [AV.is v, AV.int i, AV.is vv] [.arr v 239 5 (l.map D1.cs), .arr vv 239 5 [D1.cs x]] (fun _ : Value => True) (fun v => [.arr v 239 5 ((l.take i ++ x :: l.drop i).map D1.cs)]) (fun v => AV.is v) := CC6
namespace tw5n2
@[reducible] def BB2 := @N1.cs
def tw5x1 := @Tryz.func246
def tw5x2 := @Tryz.ntmps246
def AE0 := @Tryz.underlying56
def Ab3 := @Tryz.sizeOf244
@[reducible] def BJ1 : Nat := 24
def BB3 := @Tryz.type244
@[reducible] def tw5x7 : Nat := 244
@[reducible] def tw5x8 : Nat := 3
def tw5x9 := @Tryz.func291
end tw5n2
open tw5n2 in
theorem Ag5 (v vv : Value) (l : List N1) (x : N1) (i : Nat) (hi : i ≤ l.length) (hl : l.length ≤ 4194304) : M1 246 [AV.is v, AV.int i, AV.is vv] [.arr v 244 3 (l.map N1.cs), .arr vv 244 3 [N1.cs x]] (fun _ : Value => True) (fun v => [.arr v 244 3 ((l.take i ++ x :: l.drop i).map N1.cs)]) (fun v => AV.is v) := CC6
theorem BN4 (v : Value) (l : List D1) (i : Nat) (hi : i < l.length) (hl : l.length ≤ 4194304) : M1 245 [AV.is v, AV.int i, AV.int ((i : Int) + 1)] [.arr v 239 5 (l.map D1.cs)] (fun _ : Value => True) (fun v => [.arr v 239 5 ((l.eraseIdx i).map D1.cs)]) (fun v => AV.is v) := by
 have hn : (l.map D1.cs).length = l.length := A7 _;refine C8 Tryz.func245 rfl Tryz.ntmps245 rfl ?_;refine Ak2 0 rfl ?_ ?_
 ·intro hv hes; subst hv;have h0 : l.length = 0 := (by rw [← hn, hes]; rfl); omega
 intro g cap hv hlc hcm; subst hv;refine R2 ?_;refine A1 rfl (G1 rfl I9) ?_;refine R7 ?_;refine A1 rfl (Am7 rfl F5 (A0 rfl)) ?_;refine A1 rfl (w_v3 rfl F5 M2 (A0 rfl) (A0 rfl) (A0 rfl) (A0 rfl) qz8 qz8 qz8 qz8) ?_;refine R8 ?_;refine A3 ?_ ?_
 ·intro h16;have k16 := J9 h16;(try simp only [A7] at k16);omega
 intro h16;have k16 := J5 h16;(try simp only [A7] at k16);refine R4 ?_;refine A1 rfl (Am7 rfl F5 (A0 rfl)) ?_;refine R3 ?_;refine M6 6 D4 D4 rfl ?_;refine R2 ?_;refine C0 rfl rfl (Br3 rfl F5 M2 (A0 rfl) (A0 rfl) qz8 qz8) ?_;refine R2 ?_;refine C0 rfl rfl (AQ6 rfl F5 M2 (A0 rfl) (A0 rfl) qz8 qz8) ?_;refine R1 ?_;rw [show ((i : Int) + 1).toNat = i + 1 by omega, l4];refine Cz8 (k := i) (j := i + 1) 0 rfl rfl rfl rfl F5 Tryz.type239 rfl (A0 rfl) (A0 rfl) rfl qz8 qz8 ?_;refine R6 ?_;refine A1 rfl (Am7 rfl F5 (A0 rfl)) ?_;refine R1 ?_;refine A1 rfl (w_vlohi rfl F5 M2 (A0 rfl) (A0 rfl) (A0 rfl) qz8 qz8 qz8) ?_;simp only [l4];refine Cz9 0 rfl rfl rfl F5 Tryz.zeroValue239 rfl rfl rfl (A0 rfl) rfl qz8 qz8 qz8 ?_;refine R7 ?_;exact I4 [0] (slv g (i + ((l.map D1.cs).length - (i + 1))) cap) (trivial) rfl (by exact C3 (fun z => [Own.arr _ 239 5 z]) (by simp [List.eraseIdx_eq_take_drop_succ, List.map_take, List.map_drop])) (M4 rfl (A6 rfl qz9))
end Go.PQ
namespace Go.PQ
open Go.Proofs
open Go Go.AV Go.M
attribute [local irreducible] OpW OpA OpS AWP J6 L3 K2 K6 Le Ev F7
theorem BN5 {p : Prop} (h : p := by
  refine B3 Bz1 rfl Bz2 rfl ?_;refine R7 ?_;refine A1 rfl (A5 rfl Bz3 rfl (Bz4 _ _ _) AJ2) ?_;refine R3 ?_;exact D6 rfl (A6 rfl qz9)) : p := h
namespace tw6n0
def Bz1 := @Tryz.func167
def Bz2 := @Tryz.ntmps167
def Bz3 := @Tryz.call39
def Bz4 := @Y8
end tw6n0
open tw6n0 in
theorem AZ8 (t : Int) : E1 167 [AV.int t] (AV.bool (AR9 t)) := BN5
theorem Ax4 (s : Str) (g : Bool) (hs : s.length ≤ 4611686018427387904) : E1 50 [AV.str s, AV.bool g] (AV.bool (AG1 s g)) := by
  refine B3 Tryz.func50 rfl Tryz.ntmps50 rfl ?_;refine R7 ?_;refine A1 rfl (A5 rfl Tryz.call93 rfl (BZ9 _ qz8) (A2 (A0 rfl) B0)) ?_;refine R4 ?_;refine s9 rfl rfl (X4 rfl rfl rfl) (fun hc => CU4 rfl (A9 rfl hc) (S8 (l := []) rfl)) ?_;refine R6 ?_;exact D6 rfl (A6 rfl qz9)
theorem Az9 (s : Str) (hs : s.length ≤ 4611686018427387904) : E1 101 [AV.str s] (AV.bool (AO6 s)) := by
  refine B3 Tryz.func101 rfl Tryz.ntmps101 rfl ?_;refine R11 ?_;refine L6 rfl (fun hc => A5 rfl Tryz.call135 rfl (BZ8 _ _ qz8 F1) (A2 (A9 rfl hc) (A2 (S8 (l := [46, 45, 44, 95]) rfl) B0))) ?_;refine R4 ?_;exact D6 rfl (A6 rfl qz9)
theorem Ba2 (k s : Str) (g : Bool) (hk : k.length ≤ 4611686018427387904) (hs : s.length ≤ 4611686018427387904) : E1 58 [AV.str k, AV.str s, AV.bool g] (AV.bool (Ah4 k s g)) := by
  refine B3 Tryz.func58 rfl Tryz.ntmps58 rfl ?_;refine R7 ?_;refine A1 rfl (A5 rfl Tryz.call94 rfl (AR2 _ qz8) (A2 (A0 rfl) B0)) ?_;refine R2 ?_;refine L6 rfl (fun hc => A5 rfl Tryz.call101 rfl (Az9 _ qz8) (A2 (A9 rfl hc) B0)) ?_;refine R6 ?_;refine s9 rfl rfl (BQ0 rfl rfl rfl) (fun hc => Ac0 rfl (A9 rfl hc) (S8 (l := []) rfl)) ?_;refine R5 ?_;exact D6 rfl (A6 rfl qz9)
theorem BV6 (t : Int) : E1 286 [AV.int t] (AV.bool false) := by
  refine B3 Tryz.func286 rfl Tryz.ntmps286 rfl ?_;refine R12 ?_;exact D6 rfl (A6 rfl (by exact C3 AV.bool Z1))
theorem BV7 (t : Str) : E1 88 [AV.str t] (AV.bool false) := by
  refine B3 Tryz.func88 rfl Tryz.ntmps88 rfl ?_;refine R12 ?_;exact D6 rfl (A6 rfl (by exact C3 AV.bool Z1))
theorem Bj0 (x y : Int) : E1 243 [AV.int x, AV.int y] (AV.int (AI8 x y)) := by
 refine B3 Tryz.func243 rfl Tryz.ntmps243 rfl ?_;refine R7 ?_;refine A1 rfl (A5 rfl Tryz.call286 rfl (BV6 _) J3) ?_;refine R5 ?_;refine A1 rfl (A5 rfl Tryz.call286 rfl (BV6 _) J3) ?_;refine R7 ?_;refine A3 ?_ ?_
 ·intro h11
  cases h11
 intro h11;refine R6 ?_;refine A3 ?_ ?_
 ·intro h13
  cases h13
 intro h13;refine R8 ?_;refine A3 ?_ ?_
 ·intro h16;have k16 := C5 h16;refine R5 ?_;exact D6 rfl (A6 rfl qz152)
 intro h16;have k16 := B9 h16;refine R8 ?_;refine A3 ?_ ?_
 ·intro h19;have k19 := C5 h19;refine R5 ?_;exact D6 rfl (A6 rfl qz152)
 intro h19;have k19 := B9 h19;refine R6 ?_;exact D6 rfl (A6 rfl qz152)
theorem Bj1 (x y : Str) : E1 44 [AV.str x, AV.str y] (AV.int (Aw7 x y)) := by
 refine B3 Tryz.func44 rfl Tryz.ntmps44 rfl ?_;refine R7 ?_;refine A1 rfl (A5 rfl Tryz.call88 rfl (BV7 _) J3) ?_;refine R5 ?_;refine A1 rfl (A5 rfl Tryz.call88 rfl (BV7 _) J3) ?_;refine R7 ?_;refine A3 ?_ ?_
 ·intro h11
  cases h11
 intro h11;refine R6 ?_;refine A3 ?_ ?_
 ·intro h13
  cases h13
 intro h13;refine R6 ?_;refine A1 rfl (w_slss rfl (A0 rfl) (A0 rfl)) ?_;refine R1 ?_;refine A3 ?_ ?_
 ·intro h16;refine R5 ?_;exact D6 rfl (A6 rfl qz134)
 intro h16;refine R6 ?_;refine A1 rfl (Bq8 rfl (A0 rfl) (A0 rfl)) ?_;refine R1 ?_;refine A3 ?_ ?_
 ·intro h19;refine R5 ?_;exact D6 rfl (A6 rfl qz134)
 intro h19;refine R6 ?_;exact D6 rfl (A6 rfl qz134)
end Go.PQ
namespace Go.PQ
open Go.Proofs
open Go Go.AV Go.M
attribute [local irreducible] OpW OpA OpS AWP J6 L3 K2 K6 Le Ev F7
theorem Bt1 {l : List A4} (h : C7 A4.size l ≤ 4194304) : ∀ k ∈ Q3 l, k.length ≤ 4611686018427387904 := fun k hk => by
  obtain ⟨w, hw, rfl⟩ := Y0.1 hk;have := Al3 (f := A4.size) hw;have h2 : w.size = w.Key.length + w.Val.length := rfl;omega
theorem AV0 (l : List Str) (hs : ∀ k ∈ l, k.length ≤ 4611686018427387904) : E1 46 [strs l] (AV.bool (g7 l)) := by
 refine B3 Tryz.func46 rfl Tryz.ntmps46 rfl ?_;refine l7 (t := 0) rfl fun hl => ?_;try simp only [A7] at hl
 refine R12 ?_;refine F2 [(0, _), (5, _), (6, _)] _ (fun (i : Nat) => i ≤ l.length ∧ g7 l = ((l.drop i).all f6 && adj Op.bytesLess (l.drop (i - 1)))) (fun i => []) (fun i => [(7, AV.int i)]) (fun i => l.length - i) (0) ?_ (G3 A8) ?_
 ·exact ⟨E2 _, rfl⟩
 intro i hinv;refine R5 ?_;refine A3 ?_ ?_
 ·intro h8;have k8 := C5 h8;have hlt : i < l.length := by omega
  obtain ⟨x, hx⟩ := B4 hlt;obtain ⟨y, hy⟩ := B4 (show i - 1 < l.length by omega);have hsx := hs x (C2 hx);refine R6 ?_;refine A1 rfl (D3 rfl E3 I2 (A0 rfl) (A0 rfl) hx qz2) ?_;refine R7 ?_;refine A1 rfl (A5 rfl Tryz.call91 rfl (An2 _ qz8) (A2 (A0 rfl) B0)) ?_;refine R9 ?_;refine s9 rfl rfl (X4 rfl rfl rfl) (fun hc => D3 rfl E3 I2 (A9 rfl hc) (A9 rfl hc) hy qz6) ?_;refine R1 ?_;refine s9 rfl rfl (X4 rfl rfl rfl) (fun hc => w_sleq rfl (A9 rfl hc) (A9 rfl hc)) ?_;refine R3 ?_;refine A3 ?_ ?_
  ·intro h27;have hfin : g7 l = false := by rw [hinv.2]; cases hg : f6 x with | false => (rw [Ak4 hx hg]; simp) | true => (have hb : 0 < i ∧ Op.bytesLess y x = false := (by have := a8 y x; simp_all; try grind); rw [Ad0 hx hy hb.1 hb.2]; simp)
   refine R5 ?_;exact D6 rfl (A6 rfl qz162)
  intro h27;have hg : f6 x = true ∧ (0 < i → Op.bytesLess y x = true) := by have := a8 y x; simp_all
  refine R5 ?_;refine G4 i (i + 1) ?_ ?_ (G3 A8)
  ·exact ⟨by omega, by rw [hinv.2, Ak3 hx hg.1, Ac9 hx hy hg.2]⟩
  omega
 intro h8;have k8 := B9 h8;have hge : l.length ≤ i := by omega
 refine R6 ?_;exact D6 rfl (A6 rfl qz162)
theorem CC8 (l : List A4) (hs : C7 A4.size l ≤ 4194304) : E1 47 [AV.list 3 (l.map A4.cs)] (strs (Q3 l)) := by
 have hl : l.length ≤ 4194304 := L8 L9 hs;refine B3 Tryz.func47 rfl Tryz.ntmps47 rfl ?_;refine R2 ?_;refine A1 rfl (G1 rfl (Y5 (sz := 1))) ?_;refine R3 ?_;refine P6 rfl rfl rfl rfl E3 I2 ?_;intro v6;refine R10 ?_;refine J0 [(2, _), (7, _), (8, _)] _ (fun (i : Nat) (v : Value) => i ≤ l.length) (fun i v => [.arr v 9 1 ((l.take i).map fun w => [AV.str w.Key])]) (fun i v => [(3, AV.is v), (9, AV.int i)]) (fun i v => l.length - i) (0) (v6) ?_ (K1 C1 A8) ?_
 ·exact E2 _
 intro i v hinv;refine R5 ?_;refine A3 ?_ ?_
 ·intro h10;have k10 := C5 h10;have hlt : i < l.length := by omega
  obtain ⟨x, hx⟩ := B4 hlt;refine R5 ?_;refine A1 rfl (D3 rfl D7 H0 (A0 rfl) (A0 rfl) hx qz2) ?_;refine R2 ?_;intro b5;refine R7 ?_;refine H4 (by' := 16) 1 rfl rfl rfl rfl E3 Tryz.type9 rfl rfl rfl rfl rfl rfl (A0 rfl) (A0 rfl) rfl qz2 ?_;intro v17_1;refine R6 ?_;refine G8 i v (i + 1) (v17_1) ?_ ?_ (E5 1 (by exact C3 (fun z => [Own.arr v17_1 9 1 z]) (AK2 (f := fun w : A4 => [AV.str w.Key]) hx)) A8)
  ·omega
  omega
 intro h10;have k10 := B9 h10;have hge : l.length ≤ i := by omega
 rw [P8 hge];refine R7 ?_;refine Ak0 0 2 rfl rfl ?_;exact D6 rfl (A6 rfl (by exact C3 (AV.list 1) (by unfold Q3; rw [List.map_map]; rfl)))
theorem Bn4 (w : A4) (h : w.size ≤ 4194304) : E1 49 [AV.agg w.cs] (AV.bool (!AG1 w.Val w.Gone)) := by
  unfold A4.size at h;refine B3 Tryz.func49 rfl Tryz.ntmps49 rfl ?_;refine R3 ?_;intro b1;refine R8 ?_;refine A1 rfl (A5 rfl Tryz.call50 rfl (Ax4 _ _ qz8) (A2 (A0 rfl) (A2 (A0 rfl) B0))) ?_;refine R4 ?_;exact D6 rfl (A6 rfl qz9)
theorem AR3 (l : List A4) (hs : C7 A4.size l ≤ 4194304) : E1 22 [AV.list 3 (l.map A4.cs)] (AV.bool (j5 l)) := by
  have hm : ∀ x ∈ l, x.size ≤ 4194304 := fun x hx => L8 (Al3 hx) hs;refine B3 Tryz.func22 rfl Tryz.ntmps22 rfl ?_;refine R11 ?_;refine L6 rfl (fun hc => A5 rfl Tryz.call47 rfl (CC8 _ AC4) (A2 (A9 rfl hc) B0)) ?_;refine L6 rfl (fun hc => A5 rfl Tryz.call46 rfl (AV0 _ (by first | assumption | exact Bt1 AC4)) (A2 (A9 rfl hc) B0)) ?_;refine R3 ?_;refine L6 rfl (fun hc => A5 rfl Tryz.call48 rfl (AT0 _ _ _ Ab8) (A2 (A9 rfl hc) (A2 (BB4 Tryz.call49 (fun w h => Bn4 w h)) B0))) ?_;refine R5 ?_;exact D6 rfl (A6 rfl (by exact C3 AV.bool (by unfold j5; simp only [A7])))
theorem CY1 (w : A4) : E1 76 [AV.agg w.cs] (AV.bool w.Gone) := by
  refine B3 Tryz.func76 rfl Tryz.ntmps76 rfl ?_;refine R3 ?_;intro b1;refine R9 ?_;exact D6 rfl (A6 rfl qz9)
theorem Ci1 (l : List A4) (hs : C7 A4.size l ≤ 4194304) : E1 30 [AV.list 3 (l.map A4.cs)] (AV.bool (BO2 l)) := by
  refine B3 Tryz.func30 rfl Tryz.ntmps30 rfl ?_;refine R7 ?_;refine A1 rfl (A5 rfl Tryz.call22 rfl (AR3 _ W1) (A2 (A0 rfl) B0)) ?_;refine R2 ?_;refine L6 rfl (fun hc => A5 rfl Tryz.call48 rfl (AT0 _ _ _ Ab8) (A2 (A9 rfl hc) (A2 (BB4 Tryz.call76 (fun w (_ : True) => CY1 w)) B0))) ?_;refine R5 ?_;exact D6 rfl (A6 rfl qz9)
theorem Ax5 (l : List A4) (hs : C7 A4.size l ≤ 1048576) : E1 26 [AV.list 3 (l.map A4.cs)] (AV.bool (AK6 l)) := by
 refine B3 Tryz.func26 rfl Tryz.ntmps26 rfl ?_;refine l7 (t := 0) rfl fun hl => ?_;try simp only [A7] at hl
 refine R12 ?_;refine F2 [(0, _), (5, _), (6, _)] _ (fun (i : Nat) => i ≤ l.length ∧ (l.all AO7 && adj N3 l) = ((l.drop i).all AO7 && adj N3 (l.drop (i - 1)))) (fun i => []) (fun i => [(7, AV.int i)]) (fun i => l.length - i) (0) ?_ (G3 A8) ?_
 ·exact ⟨E2 _, rfl⟩
 intro i hinv;refine R5 ?_;refine A3 ?_ ?_
 ·intro h8;have k8 := C5 h8;have hlt : i < l.length := by omega
  obtain ⟨x, hx⟩ := B4 hlt;obtain ⟨y, hy⟩ := B4 (show i - 1 < l.length by omega);have hsx : x.size ≤ 1048576 := L8 (U6 hx) hs;unfold A4.size at hsx;refine R6 ?_;refine A1 rfl (D3 rfl D7 H0 (A0 rfl) (A0 rfl) hx qz2) ?_;refine R2 ?_;intro b4;refine R11 ?_;refine C0 rfl rfl (A5 rfl Tryz.call58 rfl (Ba2 _ _ _ qz8 qz8) (A2 (A0 rfl) (A2 (A0 rfl) (A2 (A0 rfl) B0)))) ?_;refine R8 ?_;refine Q4 rfl (X4 rfl rfl rfl) (fun hc => D3 rfl D7 H0 (A9 rfl hc) (A9 rfl hc) hy qz6) ?_;refine R4 ?_;refine Q4 rfl (X4 rfl rfl rfl) (fun hc => BX2 rfl (A9 rfl hc) (A9 rfl hc)) ?_;refine R3 ?_;refine A3 ?_ ?_
  ·intro h34;have hfin : AK6 l = false := by unfold AK6; rw [hinv.2]; cases hg : AO7 x with | false => (rw [Ak4 hx hg]; simp) | true => (have hb : 0 < i ∧ N3 y x = false := (by unfold AO7 at hg; unfold N3; simp_all; try grind); rw [Ad0 hx hy hb.1 hb.2]; simp)
   refine R5 ?_;exact D6 rfl (A6 rfl qz148)
  intro h34;have hg : AO7 x = true ∧ (0 < i → N3 y x = true) := by unfold AO7 N3; simp_all
  refine R5 ?_;refine G4 i (i + 1) ?_ ?_ (S5 1 A8)
  ·exact ⟨by omega, by rw [hinv.2, Ak3 hx hg.1, Ac9 hx hy hg.2]⟩
  omega
 intro h8;have k8 := B9 h8;have hge : l.length ≤ i := by omega
 refine R9 ?_;exact D6 rfl (A6 rfl qz148)
theorem Bt2 (w : A4) (k : Str) : E1 43 [AV.agg w.cs, AV.str k] (AV.int (Bd5 k w)) := by
  refine B3 Tryz.func43 rfl Tryz.ntmps43 rfl ?_;refine R3 ?_;intro b2;refine R7 ?_;refine A1 rfl (A5 rfl Tryz.call44 rfl (Bj1 _ _) F0) ?_;refine R3 ?_;exact D6 rfl (A6 rfl qz9)
theorem As2 (l : List A4) (k : Str) (hs : l.length ≤ 4611686018427387903) : E1 20 [AV.list 3 (l.map A4.cs), AV.str k] (AV.tup [AV.int (AT3 l k), AV.bool (Ay2 l k)]) := by
  refine B3 Tryz.func20 rfl Tryz.ntmps20 rfl ?_;refine R9 ?_;refine A1 rfl (A5 rfl Tryz.call42 rfl (BK8 _ _ _ Ab8 _ qz8) (A2 (A0 rfl) (A2 (A0 rfl) (A2 (Bf3 Tryz.call43 (fun w k (_ : True) => Bt2 w k)) B0)))) ?_;refine R6 ?_;exact f7 rfl F1 (I3 (A6 rfl qz9) (I3 (A6 rfl qz9) AB5))
end Go.PQ