/- Texts of the claim, part 3. -/
import Derived.Lib.ItoaNum
import Derived.Lib.ItoaMem
import Derived.Lib.Split
import Derived.Lib.SplitLaws
import Derived.Lib.AtoiAllCases
import Derived.Lib.Strings
import Derived.Lib.IndexMore
import Derived.Lib.Join
import Derived.Lib.OthersKept
import Derived.Laws.IdiomRangeMap
import Derived.MapKept
import Derived.Test.YtogeipbkjamdkaaGreatDoorProg
import GoSem.ClaimJoined
import GoSem.ClaimMapViews
import Derived.JoinedTies
import Derived.KernelRfl
import Derived.RowKit
import Derived.Test.YtogeipbkjamdkaaGreatDoorZOrders2
set_option linter.defProp false
set_option linter.unusedVariables false
set_option linter.unusedSimpArgs false
set_option maxRecDepth 100000
set_option maxHeartbeats 4000000
namespace Go.M
open Go.AV
def AX8 (h : F1) : O0 := ⟨1, h.Txn, h.Time, h.Lead, h.Reads, h.Writes, false⟩
def hOf (r : O0) : F1 := ⟨r.Txn, r.Time, r.Lead, r.Reads, r.Writes⟩
def AP6 (l : List A4) (k : Str) : Bool := l.any fun w => w.Key == k
def BH8 (l : List Str) (k : Str) : Bool := l.any fun x => k == x
theorem AS3 {l : List A4} {k : Str} : AP6 l k = true ↔ ∃ w ∈ l, w.Key = k := by unfold AP6; simp
theorem Aq1 {l : List Str} {k : Str} : BH8 l k = true ↔ k ∈ l := by unfold BH8; simp
def Bd9 (ws : List A4) (rs : List Str) (os : List A4) : Bool := ws.any fun w => AP6 os w.Key || BH8 rs w.Key
def BR9 (h k : F1) : Bool := Bd9 h.Writes k.Reads k.Writes || Bd9 k.Writes h.Reads h.Writes
def apart (h : F1) (rs : List Str) (ws : List A4) : Bool := rs.all (fun k => !AP6 h.Writes k) && ws.all (fun w => !(AP6 h.Writes w.Key || BH8 h.Reads w.Key))
theorem Au0 {h : F1} {rs : List Str} {ws : List A4} : apart h rs ws = true ↔ (∀ k ∈ rs, ∀ w ∈ h.Writes, w.Key ≠ k) ∧ (∀ w ∈ ws, (∀ v ∈ h.Writes, v.Key ≠ w.Key) ∧ w.Key ∉ h.Reads) := by
  unfold apart;simp only [F0, l8, l7, AL2];constructor
  · rintro ⟨h1, h2⟩
    refine ⟨fun k hk w hw e => ?_, fun w hw => ⟨fun v hv e => ?_, fun hr => ?_⟩⟩
    · have := h1 k hk; rw [AS3.2 ⟨w, hw, e⟩] at this; cases this
    · have := (h2 w hw).1; rw [AS3.2 ⟨v, hv, e⟩] at this; cases this
    · have := (h2 w hw).2; rw [Aq1.2 hr] at this; cases this
  · rintro ⟨h1, h2⟩
    refine ⟨fun k hk => ?_, fun w hw => ⟨?_, ?_⟩⟩
    · cases e : AP6 h.Writes k with
      | false => rfl
      | true => obtain ⟨v, hv, ev⟩ := AS3.1 e; exact (h1 k hk v hv ev).elim
    · cases e : AP6 h.Writes w.Key with
      | false => rfl
      | true => obtain ⟨v, hv, ev⟩ := AS3.1 e; exact ((h2 w hw).1 v hv ev).elim
    · cases e : BH8 h.Reads w.Key with
      | false => rfl
      | true => exact ((h2 w hw).2 (Aq1.1 e)).elim
theorem Bg0 (h g : F1) : BR9 h g = !apart g h.Reads h.Writes := by
  cases ha : apart g h.Reads h.Writes with
  | true =>
    obtain ⟨h1, h2⟩ := Au0.1 ha;refine Bool.eq_false_iff.2 fun hc => ?_;unfold BR9 Bd9 at hc;simp only [AD7, List.any_eq_true] at hc;rcases hc with ⟨w, hw, e | e⟩ | ⟨w, hw, e | e⟩
    · obtain ⟨v, hv, ev⟩ := AS3.1 e; exact (h2 w hw).1 v hv ev
    · exact (h2 w hw).2 (Aq1.1 e)
    · obtain ⟨v, hv, ev⟩ := AS3.1 e; exact (h2 v hv).1 w hw ev.symm
    · exact h1 _ (Aq1.1 e) w hw rfl
  | false =>
    rw [Bool.not_false]
    cases hc : BR9 h g with
    | true => rfl
    | false =>
      rw [← ha, Au0.2];unfold BR9 Bd9 at hc;simp only [AL2, List.any_eq_false, AD7, not_or] at hc;refine ⟨fun k hk w hw e => (hc.2 w hw).2 (Aq1.2 (e ▸ hk)), fun w hw => ⟨fun v hv e => (hc.1 w hw).1 (AS3.2 ⟨v, hv, e⟩), fun hr => (hc.1 w hw).2 (Aq1.2 hr)⟩⟩
theorem BW4 {h : F1} {rs : List Str} {ws : List A4} {t m l : Int} (ha : apart h rs ws = true) : apart ⟨t, m, l, rs, ws⟩ h.Reads h.Writes = true := by
  obtain ⟨h1, h2⟩ := Au0.1 ha;exact Au0.2 ⟨fun k hk w hw e => (h2 w hw).2 (e ▸ hk), fun w hw => ⟨fun v hv e => (h2 v hv).1 w hw e.symm, fun hr => h1 _ hr w hw rfl⟩⟩
def At0 (cells : List C4) (k : Str) : Bool := match Z9 cells k with
  | some c => decide (16 ≤ c.Vers.length)
  | none => false
def hWs (l : List F1) : List A4 := (l.map F1.Writes).flatten
def Ao3 (cells : List C4) (ws : List A4) : List Str := Ai2 (AF7 cells ++ U0 ws)
def room (cells : List C4) (ws : List A4) : Bool := ws.all (fun w => !At0 cells w.Key) && decide ((Ao3 cells ws).length ≤ 24)
theorem Bo2 (a b : List F1) : hWs (a ++ b) = hWs a ++ hWs b := by unfold hWs; simp
theorem Bk0 (a : F1) (b : List F1) : hWs (a :: b) = a.Writes ++ hWs b := by unfold hWs; simp
theorem Aq2 {l : List F1} {w : A4} : w ∈ hWs l ↔ ∃ h ∈ l, w ∈ h.Writes := by
  unfold hWs;simp only [List.mem_flatten, n8];constructor
  · rintro ⟨_, ⟨a, ha, rfl⟩, hw⟩; exact ⟨a, ha, hw⟩
  · rintro ⟨h, hh, hw⟩; exact ⟨_, ⟨h, hh, rfl⟩, hw⟩
theorem Bo3 {cells : List C4} {ws : List A4} {k : Str} : k ∈ Ao3 cells ws ↔ k ∈ AF7 cells ∨ k ∈ U0 ws := by
  unfold Ao3; rw [BE4, Z7]
theorem Cl0 {l : List Str} (h : AO2 l) : l.Nodup := h.imp fun {a b} hab e => by rw [e, K7] at hab; cases hab
theorem Bk1 {α : Type} [BEq α] [LawfulBEq α] : ∀ {a b : List α}, a.Nodup → (∀ x ∈ a, x ∈ b) → a.length ≤ b.length
  | [], _, _, _ => D6 _
  | x :: a, b, ha, h => by
    obtain ⟨h1, h2⟩ := List.nodup_cons.1 ha;have hx := h x W6;have ih := Bk1 (b := b.erase x) h2 fun y hy => (List.mem_erase_of_ne (fun e : y = x => h1 (by rw [← e]; exact hy))).2 (h y (S7 _ hy));rw [List.length_erase_of_mem hx] at ih;have := List.length_pos_of_mem hx;rw [H1]; omega
theorem srtS_le {a b : List Str} (ha : AO2 a) (h : ∀ x ∈ a, x ∈ b) : a.length ≤ b.length := Bk1 (Cl0 ha) h
theorem BW5 {c1 c2 : List C4} {w1 w2 : List A4} (h : ∀ k, k ∈ AF7 c1 ∨ k ∈ U0 w1 → k ∈ AF7 c2 ∨ k ∈ U0 w2) : (Ao3 c1 w1).length ≤ (Ao3 c2 w2).length :=
  srtS_le (CB9 _) fun k hk => Bo3.2 (h k (Bo3.1 hk))
theorem CC4 {cells : List C4} {a b : List A4} (h : ∀ w, w ∈ a ↔ w ∈ b) : room cells a = room cells b := by
  unfold room;have h1 : a.all (fun w => !At0 cells w.Key) = b.all (fun w => !At0 cells w.Key) := by
    rw [AP2, l8, l8];exact ⟨fun k w hw => k w ((h w).2 hw), fun k w hw => k w ((h w).1 hw)⟩
  have hk : ∀ k, k ∈ U0 a ↔ k ∈ U0 b := fun k => by unfold U0; simp only [n8]; exact ⟨fun ⟨w, hw, e⟩ => ⟨w, (h w).1 hw, e⟩, fun ⟨w, hw, e⟩ => ⟨w, (h w).2 hw, e⟩⟩
  have h2 : (Ao3 cells a).length = (Ao3 cells b).length := Nat.le_antisymm (BW5 fun k hk2 => by rw [hk] at hk2; exact hk2) (BW5 fun k hk2 => by rw [← hk] at hk2; exact hk2);rw [h1, h2]
def BH9 (n : Nat) (p : Nat → Bool) : Bool := (List.range n).all p
theorem BB1 {n : Nat} {p : Nat → Bool} : BH9 n p = true ↔ ∀ i, i < n → p i = true := by unfold BH9; simp
theorem Am7 {n i : Nat} {p : Nat → Bool} (hi : i < n) (h : p i = false) : BH9 n p = false := by
  cases e : BH9 n p with
  | false => rfl
  | true => rw [BB1.1 e i hi] at h; cases h
def AU7 (l : List F1) (n : Int) : Bool := l.any fun h => h.Txn == n
def Aj5 (l : List P5) (n : Int) : Bool := l.any fun t => t.Txn == n
def Bt5 (l : List F1) (i : Nat) (n : Int) : Bool := match l[i - 1]? with
  | some g => !(decide (0 < i) && decide (n ≤ g.Txn))
  | none => true
def Bt6 (l : List P5) (i : Nat) (n : Int) : Bool := match l[i - 1]? with
  | some g => !(decide (0 < i) && decide (n ≤ g.Txn))
  | none => true
def Ag7 (s : H2) (i : Nat) : Bool := match s.Held[i]? with
  | none => true
  | some h => (((U7 (AX8 h) && !decide (s.Floor < h.Time)) && Bt5 s.Held i h.Txn) && (s.Held.take i).all fun g => apart g h.Reads h.Writes) && h.Writes.all fun w => decide (O3 s.Cells w.Key < h.Time)
def AZ4 (s : H2) : Bool := BH9 s.Held.length (Ag7 s) && (decide (s.Held.length ≤ 12) && room s.Cells (hWs s.Held))
def Ay6 (s : H2) (t : P5) : Bool := if t.Yes = true then within t.Time 1 s.Floor else t.Time == 0
def Ao4 (s : H2) (i : Nat) : Bool := match s.Told[i]? with
  | none => true
  | some t => ((AO1 t.Txn && Ay6 s t) && Bt6 s.Told i t.Txn) && !AU7 s.Held t.Txn
def q9 (s : H2) : Bool := ((((AC1 s.Floor && AK8 s.Cells) && AZ4 s) && decide (s.Told.length ≤ 60)) && s.Cells.all fun c => decide (O3 s.Cells c.Key ≤ s.Floor)) && BH9 s.Told.length (Ao4 s)
structure GS (s : H2) : Prop where
  floor : 0 ≤ s.Floor ∧ s.Floor ≤ 100000
  cells : AK8 s.Cells = true
  good : ∀ h ∈ s.Held, U7 (AX8 h) = true ∧ h.Time ≤ s.Floor ∧ ∀ w ∈ h.Writes, O3 s.Cells w.Key < h.Time
  hsort : s.Held.Pairwise fun a b => a.Txn < b.Txn
  apart : s.Held.Pairwise fun a b => apart a b.Reads b.Writes = true
  hlen : s.Held.length ≤ 12
  room : room s.Cells (hWs s.Held) = true
  tlen : s.Told.length ≤ 60
  last : ∀ c ∈ s.Cells, O3 s.Cells c.Key ≤ s.Floor
  told : ∀ t ∈ s.Told, AO1 t.Txn = true ∧ Ay6 s t = true ∧ AU7 s.Held t.Txn = false
  tsort : s.Told.Pairwise fun a b => a.Txn < b.Txn
theorem Bo4 {α : Type} {f : α → Int} {l : List α} (h : ∀ (i : Nat) (x y : α), 0 < i → l[i]? = some x → l[i - 1]? = some y → f y < f x) : l.Pairwise fun a b => f a < f b := by
  have key : ∀ (j i : Nat) (x y : α), i < j → l[j]? = some x → l[i]? = some y → f y < f x := by
    intro j;induction j with
    | zero => intro i x y hi; omega
    | succ j ih =>
      intro i x y hi hx hy;have hj := (F4.1 hx).1;have hz := O1 (show j < l.length by omega);have h1 := h (j + 1) x _ qz8 hx hz;rcases Nat.lt_or_ge i j with h2 | h2
      · have := ih i _ y h2 hz hy; omega
      · have : i = j := by omega
        subst this; rw [hz] at hy; injection hy with hy; subst hy; exact h1
  rw [List.pairwise_iff_getElem];intro i j hi hj hij;exact key j i _ _ hij (O1 hj) (O1 hi)
theorem CC5 {l : List F1} {i : Nat} {n : Int} : Bt5 l i n = true ↔ ∀ g, 0 < i → l[i - 1]? = some g → g.Txn < n := by
  unfold Bt5
  cases h : l[i - 1]? with
  | none => simp
  | some g =>
    simp only [l7, Bool.and_eq_false_iff, AP0];exact ⟨fun k y h0 e => by injection e with e; subst e; omega, fun k => if h0 : 0 < i then .inr (by have := k g h0 rfl; omega) else .inl h0⟩
theorem CC6 {l : List P5} {i : Nat} {n : Int} : Bt6 l i n = true ↔ ∀ g, 0 < i → l[i - 1]? = some g → g.Txn < n := by
  unfold Bt6
  cases h : l[i - 1]? with
  | none => simp
  | some g =>
    simp only [l7, Bool.and_eq_false_iff, AP0];exact ⟨fun k y h0 e => by injection e with e; subst e; omega, fun k => if h0 : 0 < i then .inr (by have := k g h0 rfl; omega) else .inl h0⟩
theorem CC7 {α : Type} {p : α → α → Prop} {l : List α} : l.Pairwise p ↔ ∀ (i : Nat) (x : α), l[i]? = some x → ∀ y ∈ l.take i, p y x := by
  rw [List.pairwise_iff_getElem];constructor
  · intro h i x hx y hy
    obtain ⟨j, hj⟩ := j4 hy;have hi := (F4.1 hx);have hjl := (F4.1 hj).1;rw [I5] at hjl;rw [AI0 qz8] at hj;have hj2 := (F4.1 hj);obtain ⟨hi1, hi2⟩ := hi;obtain ⟨hj3, hj4⟩ := hj2;have := h j i hj3 hi1 qz8;rw [hi2, hj4] at this; exact this
  · intro h i j hi hj hij
    refine h j _ (O1 hj) _ (C3 (i := i) ?_);rw [AI0 hij]; exact O1 hi
theorem AY1 {s : H2} : q9 s = true ↔ GS s := by
  unfold q9 AZ4;simp only [F0, I4, BB1, l8];constructor
  · rintro ⟨⟨⟨⟨⟨h1, h2⟩, h3, h4, h5⟩, h6⟩, h7⟩, h8⟩
    have hh : ∀ (i : Nat) (h : F1), s.Held[i]? = some h → U7 (AX8 h) = true ∧ h.Time ≤ s.Floor ∧ (∀ g, 0 < i → s.Held[i - 1]? = some g → g.Txn < h.Txn) ∧ (∀ g ∈ s.Held.take i, apart g h.Reads h.Writes = true) ∧ ∀ w ∈ h.Writes, O3 s.Cells w.Key < h.Time := fun i h hi => by
      have := h3 i (F4.1 hi).1;unfold Ag7 at this;rw [hi] at this;simp only [F0, l8, I4, CC5, l7, AP0] at this;exact ⟨this.1.1.1.1, by omega, this.1.1.2, this.1.2, this.2⟩
    have ht : ∀ (i : Nat) (t : P5), s.Told[i]? = some t → AO1 t.Txn = true ∧ Ay6 s t = true ∧ (∀ g, 0 < i → s.Told[i - 1]? = some g → g.Txn < t.Txn) ∧ AU7 s.Held t.Txn = false := fun i t hi => by
      have := h8 i (F4.1 hi).1;unfold Ao4 at this;rw [hi] at this;simp only [F0, CC6, l7] at this;exact ⟨this.1.1.1, this.1.1.2, this.1.2, this.2⟩
    unfold AC1 within at h1
    simp only [F0, I4] at h1;refine ⟨h1, h2, fun h hm => ?_, Bo4 fun i x y h0 hx hy => (hh i x hx).2.2.1 y h0 hy, CC7.2 fun i x hx => (hh i x hx).2.2.2.1, h4, h5, h6, h7, fun t hm => ?_, Bo4 fun i x y h0 hx hy => (ht i x hx).2.2.1 y h0 hy⟩
    · obtain ⟨i, hi⟩ := j4 hm
      have := hh i h hi;exact ⟨this.1, this.2.1, this.2.2.2.2⟩
    · obtain ⟨i, hi⟩ := j4 hm
      have := ht i t hi;exact ⟨this.1, this.2.1, this.2.2.2⟩
  · intro g
    have hch : ∀ {α : Type} {f : α → Int} {l : List α}, (l.Pairwise fun a b => f a < f b) → ∀ (i : Nat) (x y : α), 0 < i → l[i]? = some x → l[i - 1]? = some y → f y < f x := fun {α f l} hp i x y h0 hx hy => by
      obtain ⟨hx1, hx2⟩ := F4.1 hx;obtain ⟨hy1, hy2⟩ := F4.1 hy;have := List.pairwise_iff_getElem.1 hp (i - 1) i hy1 hx1 qz8;rw [hx2, hy2] at this; exact this
    refine ⟨⟨⟨⟨⟨?_, g.cells⟩, fun i hi => ?_, g.hlen, g.room⟩, g.tlen⟩, g.last⟩, fun i hi => ?_⟩
    · unfold AC1 within; simp [g.floor]
    · unfold Ag7
      rw [O1 hi];have hx := O1 hi;obtain ⟨g1, g2, g3⟩ := g.good _ (C3 hx);simp only [F0, l8, I4, CC5, l7, AP0];exact ⟨⟨⟨⟨g1, by omega⟩, fun y h0 hy => hch g.hsort i _ y h0 hx hy⟩, fun y hy => CC7.1 g.apart i _ hx y hy⟩, g3⟩
    · unfold Ao4
      rw [O1 hi];have hx := O1 hi;obtain ⟨g1, g2, g3⟩ := g.told _ (C3 hx);simp only [F0, CC6, l7];exact ⟨⟨⟨g1, g2⟩, fun y h0 hy => hch g.tsort i _ y h0 hx hy⟩, g3⟩
def AZ9 (h : F1) : List F1 → List F1
  | [] => [h]
  | g :: l => if h.Txn < g.Txn then h :: g :: l else g :: AZ9 h l
def AU8 (h : P5) : List P5 → List P5
  | [] => [h]
  | g :: l => if h.Txn < g.Txn then h :: g :: l else g :: AU8 h l
def AJ6 (l : List F1) (n : Int) : List F1 := l.filter fun h => h.Txn != n
def AL5 (l : List F1) (n : Int) : Option F1 := l.find? fun h => h.Txn == n
def BS0 (l : List P5) (n : Int) : Option P5 := l.find? fun t => t.Txn == n
def fits (s : H2) (rs : List Str) (ws : List A4) : Bool := (s.Held.all fun h => apart h rs ws) && (decide (s.Held.length < 12) && room s.Cells (hWs s.Held ++ ws))
def Af0 (s : H2) (r : O0) (fl : Int) (q : List C4) : H2 := ⟨fl, q, AJ6 s.Held r.Txn, AU8 ⟨r.Txn, r.Yes, r.Time⟩ s.Told⟩
def l4 (s : H2) (r : O0) : H2 × Bool :=
  if r.Kind = 4 then (⟨r.Time, s.Cells, s.Held, s.Told⟩, decide (s.Floor < r.Time))
  else if Aj5 s.Told r.Txn = true then (s, false)
  else if r.Kind = 1 then (⟨r.Time, s.Cells, AZ9 (hOf r) s.Held, s.Told⟩, (!AU7 s.Held r.Txn && decide (s.Floor < r.Time)) && fits s r.Reads r.Writes)
  else if r.Yes = true then (match AL5 s.Held r.Txn with
    | none => (s, false)
    | some h => if r.Time < h.Time then (s, false) else if (AS6 s.Cells h.Writes r.Time).2 = true then (Af0 s r (if s.Floor < r.Time then r.Time else s.Floor) (AS6 s.Cells h.Writes r.Time).1, true) else (s, false))
  else (Af0 s r s.Floor s.Cells, true)
def AE0 : H2 := ⟨0, [], [], []⟩
def AP3 (s : H2) (r : O0) : H2 := if (l4 s r).2 = true then (l4 s r).1 else s
def o7 (s : H2) (l : List O0) : H2 := l.foldl AP3 s
def Af1 (s : H2) : List O0 → List Bool
  | [] => []
  | r :: l => (l4 s r).2 :: Af1 (AP3 s r) l
theorem Au1 (h : F1) : ∀ l, (AZ9 h l).Perm (h :: l)
  | [] => List.Perm.refl _
  | g :: l => by
    unfold AZ9;split
    · exact List.Perm.refl _
    · exact (List.Perm.cons g (Au1 h l)).trans (List.Perm.swap h g l)
theorem BW6 (h : P5) : ∀ l, (AU8 h l).Perm (h :: l)
  | [] => List.Perm.refl _
  | g :: l => by
    unfold AU8;split
    · exact List.Perm.refl _
    · exact (List.Perm.cons g (BW6 h l)).trans (List.Perm.swap h g l)
theorem Aj0 {h x : F1} {l : List F1} : x ∈ AZ9 h l ↔ x = h ∨ x ∈ l := by rw [(Au1 h l).mem_iff, O5]
theorem CQ9 {h x : P5} {l : List P5} : x ∈ AU8 h l ↔ x = h ∨ x ∈ l := by rw [(BW6 h l).mem_iff, O5]
theorem BW7 {h : F1} : ∀ {l : List F1}, (l.Pairwise fun a b => a.Txn < b.Txn) → (∀ g ∈ l, g.Txn ≠ h.Txn) → (AZ9 h l).Pairwise fun a b => a.Txn < b.Txn
  | [], _, _ => by unfold AZ9; simp
  | g :: l, hs, hn => by
    obtain ⟨h1, h2⟩ := AC7.1 hs;have hg := hn g W6;unfold AZ9;split
    · rename_i hlt
      refine AC7.2 ⟨fun y hy => ?_, hs⟩;rcases O5.1 hy with rfl | hy
      · exact hlt
      · have := h1 y hy; omega
    · refine AC7.2 ⟨fun y hy => ?_, BW7 h2 fun y hy => hn y (S7 _ hy)⟩
      rcases Aj0.1 hy with rfl | hy
      · omega
      · exact h1 y hy
theorem BW8 {h : P5} : ∀ {l : List P5}, (l.Pairwise fun a b => a.Txn < b.Txn) → (∀ g ∈ l, g.Txn ≠ h.Txn) → (AU8 h l).Pairwise fun a b => a.Txn < b.Txn
  | [], _, _ => by unfold AU8; simp
  | g :: l, hs, hn => by
    obtain ⟨h1, h2⟩ := AC7.1 hs;have hg := hn g W6;unfold AU8;split
    · rename_i hlt
      refine AC7.2 ⟨fun y hy => ?_, hs⟩;rcases O5.1 hy with rfl | hy
      · exact hlt
      · have := h1 y hy; omega
    · refine AC7.2 ⟨fun y hy => ?_, BW8 h2 fun y hy => hn y (S7 _ hy)⟩
      rcases CQ9.1 hy with rfl | hy
      · omega
      · exact h1 y hy
theorem hasH_iff {l : List F1} {n : Int} : AU7 l n = true ↔ ∃ h ∈ l, h.Txn = n := by unfold AU7; simp
theorem Aj1 {l : List F1} {n : Int} : AU7 l n = false ↔ ∀ h ∈ l, h.Txn ≠ n := by unfold AU7; simp
theorem hasT_iff {l : List P5} {n : Int} : Aj5 l n = true ↔ ∃ h ∈ l, h.Txn = n := by unfold Aj5; simp
theorem Bk2 {l : List P5} {n : Int} : Aj5 l n = false ↔ ∀ h ∈ l, h.Txn ≠ n := by unfold Aj5; simp
theorem Ab7 {l : List F1} {n : Int} {h : F1} : h ∈ AJ6 l n ↔ h ∈ l ∧ h.Txn ≠ n := by unfold AJ6; simp
theorem Bo5 : ∀ {l : List P5} {a : Int}, (l.Pairwise fun a b => a.Txn < b.Txn) → (∀ t ∈ l, a < t.Txn ∧ t.Txn ≤ 60) → l.length ≤ (60 - a).toNat
  | [], _, _, _ => D6 _
  | t :: l, a, hs, h => by
    obtain ⟨h1, h2⟩ := AC7.1 hs;have ht := h t W6;have := Bo5 (a := t.Txn) h2 fun u hu => ⟨h1 u hu, (h u (S7 _ hu)).2⟩;rw [H1]; omega
theorem Cl1 {n : Int} : AO1 n = true ↔ 1 ≤ n ∧ n ≤ 60 := by unfold AO1 within; simp
theorem BJ4 {a b : List C4} {k : Str} (h : Z9 a k = Z9 b k) : O3 a k = O3 b k := by unfold O3; rw [h]
theorem Ca2 {a b : List C4} {k : Str} (h : Z9 a k = Z9 b k) : At0 a k = At0 b k := by unfold At0; rw [h]
theorem CC8 {l : List C4} {k : Str} {c : C4} (h : Z9 l k = some c) : c ∈ l ∧ c.Key = k := by
  unfold Z9 at h;exact ⟨An5 h, by simpa using List.find?_some h⟩
theorem Cf9 {s : H2} (g : GS s) (k : Str) : O3 s.Cells k ≤ s.Floor := by
  have h0 := g.floor.1
  cases h : Z9 s.Cells k with
  | none => unfold O3; rw [h]; exact h0
  | some c =>
    obtain ⟨h1, h2⟩ := CC8 h;rw [← h2]; exact g.last c h1
theorem BP1 {s s' : H2} {t : P5} (h : s.Floor ≤ s'.Floor) (ht : Ay6 s t = true) : Ay6 s' t = true := by
  unfold Ay6 within at *
  split
  · rename_i hy; rw [D1 hy] at ht; simp only [F0, I4] at *; omega
  · rename_i hy; rw [D4 hy] at ht; exact ht
theorem gs_floor {s : H2} (g : GS s) {t : Int} (h1 : s.Floor ≤ t) (h2 : t ≤ 100000) : GS ⟨t, s.Cells, s.Held, s.Told⟩ := by
  have h0 := g.floor.1;exact ⟨⟨by dsimp only; omega, h2⟩, g.cells, fun h hm => ⟨(g.good h hm).1, by have := (g.good h hm).2.1; dsimp only; omega, (g.good h hm).2.2⟩, g.hsort, g.apart, g.hlen, g.room, g.tlen, fun c hc => by have := g.last c hc; dsimp only; omega, fun u hu => ⟨(g.told u hu).1, BP1 h1 (g.told u hu).2.1, (g.told u hu).2.2⟩, g.tsort⟩
theorem Cs7 {r : O0} (h : U7 r = true) (hk : r.Kind = 1) : r.Yes = false := by
  unfold U7 at h;rw [D1 hk] at h;unfold Ay5 at h;simp only [F0, l7] at h;exact h.2
theorem CR0 {r : O0} (h : U7 r = true) : 0 ≤ r.Time ∧ r.Time ≤ 100000 := (goodR h).time
theorem hRec_hOf {r : O0} (h : U7 r = true) (hk : r.Kind = 1) : AX8 (hOf r) = r := by
  have := Cs7 h hk;unfold AX8 hOf
  cases r; simp_all
theorem hWs_ins {h : F1} {l : List F1} {w : A4} : w ∈ hWs (AZ9 h l) ↔ w ∈ hWs l ++ h.Writes := by
  rw [Aq2, Z7, Aq2];constructor
  · rintro ⟨x, hx, hw⟩
    rcases Aj0.1 hx with rfl | hx
    · exact Or.inr hw
    · exact Or.inl ⟨x, hx, hw⟩
  · rintro (⟨x, hx, hw⟩ | hw)
    · exact ⟨x, Aj0.2 (Or.inr hx), hw⟩
    · exact ⟨h, Aj0.2 (Or.inl rfl), hw⟩
theorem fits_iff {s : H2} {rs : List Str} {ws : List A4} : fits s rs ws = true ↔ (∀ h ∈ s.Held, apart h rs ws = true) ∧ s.Held.length < 12 ∧ room s.Cells (hWs s.Held ++ ws) = true := by
  unfold fits; simp only [F0, l8, I4]
theorem Cl2 {s : H2} (g : GS s) {r : O0} (hr : U7 r = true) (hk : r.Kind = 1) (hh : AU7 s.Held r.Txn = false) (hT : Aj5 s.Told r.Txn = false) (ht : s.Floor < r.Time) (hf : fits s r.Reads r.Writes = true) :
    GS ⟨r.Time, s.Cells, AZ9 (hOf r) s.Held, s.Told⟩ := by
  obtain ⟨f1, f2, f3⟩ := fits_iff.1 hf;have htm := CR0 hr;have hnh := Aj1.1 hh;have hnt := Bk2.1 hT;refine ⟨⟨htm.1, htm.2⟩, g.cells, fun h hm => ?_, BW7 g.hsort hnh, ?_, ?_, ?_, g.tlen, fun c hc => ?_, fun t hm => ⟨(g.told t hm).1, BP1 (by dsimp only; omega) (g.told t hm).2.1, ?_⟩, g.tsort⟩
  · rcases Aj0.1 hm with rfl | hm
    · refine ⟨by rw [hRec_hOf hr hk]; exact hr, Int.le_refl _, fun w hw => ?_⟩
      have := Cf9 g w.Key;show O3 s.Cells w.Key < r.Time
      omega
    · obtain ⟨g1, g2, g3⟩ := g.good h hm
      exact ⟨g1, by dsimp only; omega, g3⟩
  · refine ((Au1 (hOf r) s.Held).pairwise_iff (fun {x y} hxy => BW4 hxy)).2 (AC7.2 ⟨fun y hy => BW4 (f1 y hy), g.apart⟩)
  · rw [(Au1 _ _).length_eq, H1]; omega
  · rw [CC4 fun w => hWs_ins]; exact f3
  · have := g.last c hc; dsimp only; omega
  · refine Aj1.2 fun h hm e => ?_
    rcases Aj0.1 hm with rfl | hm
    · exact hnt t ‹_› e.symm
    · exact Aj1.1 (g.told t ‹_›).2.2 h hm e
theorem Bo6 {s : H2} (g : GS s) {n fl : Int} {q : List C4} {t : P5} (hn : t.Txn = n) (hx : AO1 n = true) (hT : Aj5 s.Told n = false) (hfl : s.Floor ≤ fl ∧ fl ≤ 100000) (hq : AK8 q = true) (hlast : ∀ c ∈ q, O3 q c.Key ≤ fl)
    (hkeep : ∀ k ∈ AJ6 s.Held n, ∀ w ∈ k.Writes, Z9 q w.Key = Z9 s.Cells w.Key) (hkeys : ∀ k ∈ AF7 q, k ∈ AF7 s.Cells ∨ k ∈ U0 (hWs s.Held)) (htf : (if t.Yes = true then within t.Time 1 fl else t.Time == 0) = true) : GS ⟨fl, q, AJ6 s.Held n, AU8 t s.Told⟩ := by
  have h0 := g.floor.1;have hnt := Bk2.1 hT;have hsub : (AJ6 s.Held n).Sublist s.Held := List.filter_sublist;have htl : ∀ u ∈ AU8 t s.Told, AO1 u.Txn = true ∧ Ay6 ⟨fl, q, AJ6 s.Held n, AU8 t s.Told⟩ u = true ∧ AU7 (AJ6 s.Held n) u.Txn = false := fun u hu => by
    rcases CQ9.1 hu with rfl | hu
    · exact ⟨hn ▸ hx, htf, Aj1.2 fun h hm e => (Ab7.1 hm).2 (e.trans hn)⟩
    · obtain ⟨a, b, c⟩ := g.told u hu
      exact ⟨a, BP1 hfl.1 b, Aj1.2 fun h hm e => Aj1.1 c h (Ab7.1 hm).1 e⟩
  have hts := BW8 (h := t) g.tsort fun u hu => by rw [hn]; exact hnt u hu
  refine ⟨⟨by dsimp only; omega, hfl.2⟩, hq, fun h hm => ?_, g.hsort.sublist hsub, g.apart.sublist hsub, L4 hsub.length_le g.hlen, ?_, ?_, hlast, htl, hts⟩
  · obtain ⟨g1, g2, g3⟩ := g.good h (Ab7.1 hm).1
    exact ⟨g1, by dsimp only; omega, fun w hw => by rw [show O3 q w.Key = _ from BJ4 (hkeep h hm w hw)]; exact g3 w hw⟩
  · have hr := g.room
    unfold room at hr ⊢;simp only [F0, l8, I4] at hr ⊢;refine ⟨fun w hw => ?_, L4 (BW5 fun k hk => ?_) hr.2⟩
    · obtain ⟨h, hm, hwh⟩ := Aq2.1 hw
      rw [Ca2 (hkeep h hm w hwh)];exact hr.1 w (Aq2.2 ⟨h, (Ab7.1 hm).1, hwh⟩)
    · rcases hk with hk | hk
      · exact hkeys k hk
      · refine Or.inr ?_
        unfold U0 at hk ⊢;obtain ⟨w, hw, e⟩ := n8.1 hk;obtain ⟨h, hm, hwh⟩ := Aq2.1 hw;exact n8.2 ⟨w, Aq2.2 ⟨h, (Ab7.1 hm).1, hwh⟩, e⟩
  · have := Bo5 (a := 0) hts fun u hu => by have := Cl1.1 (htl u hu).1; omega
    exact this
theorem put_keys {l q : List C4} {w : List A4} {t : Int} (hw : (w.map A4.Key).Nodup) (hl : adj u5 l = true) (hq : adj u5 q = true) (h : j9 l w t = some q) : ∀ k ∈ AF7 q, k ∈ AF7 l ∨ k ∈ U0 w := fun k hk => by
  obtain ⟨h1, h2⟩ := BP0 hw hl h;by_cases hm : k ∈ w.map A4.Key
  · exact Or.inr hm
  · left
    unfold AF7 at hk;obtain ⟨c, hc, e⟩ := n8.1 hk;obtain ⟨i, hi⟩ := j4 hc;have h3 := findC_at hq hi;rw [e, h2 k hm] at h3;obtain ⟨h4, h5⟩ := CC8 h3;exact n8.2 ⟨c, h4, e⟩
theorem put_last {l q : List C4} {w : List A4} {t : Int} (hw : (w.map A4.Key).Nodup) (hl : adj u5 l = true) (h : j9 l w t = some q) (k : Str) : O3 q k = t ∨ O3 q k = O3 l k := by
  obtain ⟨h1, h2⟩ := BP0 hw hl h;by_cases hm : k ∈ w.map A4.Key
  · obtain ⟨x, hx, e⟩ := n8.1 hm
    have := h1 x hx;rw [e] at this;left; unfold O3 CM1; rw [this]; simp
  · right; exact BJ4 (h2 k hm)
theorem Ax0 {l : List F1} {n : Int} {h : F1} (e : AL5 l n = some h) : h ∈ l ∧ h.Txn = n := by
  unfold AL5 at e;exact ⟨An5 e, by simpa using List.find?_some e⟩
theorem Bo7 {l : List F1} {n : Int} : AL5 l n = none ↔ AU7 l n = false := by
  unfold AL5 AU7; rw [List.find?_eq_none, List.any_eq_false]
theorem Ca3 {s : H2} (g : GS s) {h : F1} (hm : h ∈ s.Held) : AE4 h.Writes = true := by
  have := (g.good h hm).1;unfold U7 AX8 at this;rw [D1 rfl] at this;unfold Ay5 at this;simp only [F0] at this;exact this.1.1.2
theorem Cl3 {s : H2} (g : GS s) {h k : F1} (hh : h ∈ s.Held) (hk : k ∈ s.Held) (hne : k.Txn ≠ h.Txn) : apart k h.Reads h.Writes = true := by
  obtain ⟨i, hi⟩ := j4 hh;obtain ⟨j, hj⟩ := j4 hk;obtain ⟨i1, i2⟩ := F4.1 hi;obtain ⟨j1, j2⟩ := F4.1 hj;have hp := List.pairwise_iff_getElem.1 g.apart;rcases Nat.lt_trichotomy i j with h1 | h1 | h1
  · have := hp i j i1 j1 h1
    rw [i2, j2] at this; exact BW4 this
  · subst h1; rw [hi] at hj; injection hj with hj; exact (hne (by rw [hj])).elim
  · have := hp j i j1 i1 h1
    rw [i2, j2] at this; exact this
theorem gs_yes {s : H2} (g : GS s) {h : F1} (hm : h ∈ s.Held) {t : Int} (hx : AO1 h.Txn = true) (hT : Aj5 s.Told h.Txn = false) (ht : h.Time ≤ t ∧ t ≤ 100000) {q : List C4} (hp : j9 s.Cells h.Writes t = some q) (hq : AK8 q = true) :
    GS ⟨if s.Floor < t then t else s.Floor, q, AJ6 s.Held h.Txn, AU8 ⟨h.Txn, true, t⟩ s.Told⟩ := by
  have hw := CQ8 (Ca3 g hm);have ha := (AG5 g.cells).2.1;have hqa := (AG5 hq).2.1;have h0 := g.floor;have ht1 : 1 ≤ h.Time := by
    have := (g.good h hm).1;unfold U7 AX8 at this;rw [D1 rfl] at this;unfold Ay5 AU5 within at this
    simp only [F0, I4] at this;omega
  refine Bo6 g rfl hx hT (by split <;> omega) hq (fun c hc => ?_) (fun k hk w hwk => ?_) (fun k hk => ?_) ?_
  · rcases put_last hw ha hp c.Key with e | e
    · rw [e]; split <;> omega
    · rw [e]; have := Cf9 g c.Key; split <;> omega
  · obtain ⟨k1, k2⟩ := Ab7.1 hk
    refine (BP0 hw ha hp).2 _ fun hmem => ?_;obtain ⟨v, hv, e⟩ := n8.1 hmem;exact ((Au0.1 (Cl3 g hm k1 k2)).2 v hv).1 w hwk e.symm
  · rcases put_keys hw ha hqa hp k hk with e | e
    · exact Or.inl e
    · refine Or.inr ?_
      unfold U0 at e ⊢;obtain ⟨w, hw2, e⟩ := n8.1 e;exact n8.2 ⟨w, Aq2.2 ⟨h, hm, hw2⟩, e⟩
  · rw [D1 rfl]; unfold within; simp only [F0, I4]; split <;> omega
theorem good2_of {r : O0} (h : U7 r = true) (h4 : r.Kind ≠ 4) (h1 : r.Kind ≠ 1) : Bt4 r = true := by
  unfold U7 at h;rw [D4 h1] at h;split at h
  · exact h
  · cases h
theorem Bw9 {l : List C4} {w : List A4} {t : Int} (h : (AS6 l w t).2 = true) : j9 l w t = some (AS6 l w t).1 ∧ AK8 (AS6 l w t).1 = true := by
  unfold AS6 at h ⊢
  cases hp : j9 l w t with
  | none => rw [hp] at h; cases h
  | some q => rw [hp] at h; dsimp only at h ⊢; exact ⟨rfl, by rw [AG4]; exact h⟩
theorem gs_apply {s : H2} (g : GS s) {r : O0} (hr : U7 r = true) (h : (l4 s r).2 = true) : GS (l4 s r).1 := by
  have htm := CR0 hr;unfold l4 at h ⊢;by_cases h4 : r.Kind = 4
  · rw [D1 h4] at h ⊢
    exact gs_floor g (by have := AA2 h; omega) htm.2
  · rw [D4 h4] at h ⊢
    by_cases hT : Aj5 s.Told r.Txn = true
    · rw [D1 hT] at h; cases h
    · rw [D4 hT] at h ⊢
      rw [Bool.not_eq_true] at hT;by_cases h1 : r.Kind = 1
      · rw [D1 h1] at h ⊢
        simp only [F0, l7, I4] at h;exact Cl2 g hr h1 h.1.1 hT h.1.2 h.2
      · rw [D4 h1] at h ⊢
        have h2 := good2_of hr h4 h1;unfold Bt4 at h2;simp only [F0, AD7, l7, e8] at h2;obtain ⟨⟨_, hx⟩, h3⟩ := h2;by_cases hy : r.Yes = true
        · rw [D1 hy] at h ⊢
          cases hf : AL5 s.Held r.Txn with
          | none => rw [hf] at h; cases h
          | some k =>
            rw [hf] at h;dsimp only at h ⊢;by_cases hlt : r.Time < k.Time
            · rw [D1 hlt] at h; cases h
            · rw [D4 hlt] at h ⊢
              by_cases hp : (AS6 s.Cells k.Writes r.Time).2 = true
              · rw [D1 hp]
                obtain ⟨p1, p2⟩ := Bw9 hp;obtain ⟨k1, k2⟩ := Ax0 hf;have := gs_yes g k1 (t := r.Time) (by rw [k2]; exact hx) (by rw [k2]; exact hT) ⟨by omega, htm.2⟩ p1 p2;rw [k2] at this;unfold Af0; rw [hy]; exact this
              · rw [D4 hp] at h; cases h
        · rw [D4 hy]
          rw [Bool.not_eq_true] at hy;rw [hy] at h3;simp only [Bool.false_eq_true, false_and, true_and, false_or] at h3;have h0 := g.floor;unfold Af0;refine Bo6 g rfl hx hT ⟨Int.le_refl _, h0.2⟩ g.cells g.last (fun _ _ _ _ => rfl) (fun k hk => Or.inl hk) ?_;rw [hy, h3]; rfl
theorem Bc7 : GS AE0 where
  floor := by decide
  cells := by decide
  good := fun h hm => by cases hm
  hsort := List.Pairwise.nil
  apart := List.Pairwise.nil
  hlen := by decide
  room := by
    unfold room Ao3;rw [F0];refine ⟨rfl, AB1 ?_⟩;exact L4 (BE5 _) D5
  tlen := by decide
  last := fun c hc => by cases hc
  told := fun t ht => by cases ht
  tsort := List.Pairwise.nil
theorem gs_step {s : H2} (g : GS s) {r : O0} (hr : U7 r = true) : GS (AP3 s r) := by
  unfold AP3;split
  · exact gs_apply g hr ‹_›
  · exact g
theorem Cg0 : ∀ {l : List O0} {s : H2}, GS s → (∀ r ∈ l, U7 r = true) → GS (o7 s l)
  | [], s, g, _ => g
  | r :: l, s, g, h => by
    show GS (o7 (AP3 s r) l)
    exact Cg0 (gs_step g (h r W6)) fun x hx => h x (S7 _ hx)
def settled (s : H2) : Int := s.Held.foldl (fun o h => min o (h.Time - 1)) s.Floor
structure Keeps (s s' : H2) : Prop where
  floor : s.Floor ≤ s'.Floor
  told : ∀ t ∈ s.Told, t ∈ s'.Told
  tlen : s.Told.length ≤ s'.Told.length
  settled : settled s ≤ settled s'
  cells : ∀ a, a ≤ M.settled s → Ci7 s'.Cells a = Ci7 s.Cells a
def AA7 : List Str := [[97], [98], [99], [109], [110], [122], [114, 47, 49], [105, 47, 120, 47, 49]]
def valD : List Str := [[], [49], [55], [49, 48], [45, 51], [120], [97, 44, 98, 95, 99]]
def AO3 : List Str := [[97], [98], [99], [105, 47, 120, 47, 49], [109], [110], [114, 47, 49], [122]]
theorem AK0 {k : Str} (h : k ∈ AA7) : r7 k = true ∧ k.length ≤ 5 := by
  have : ∀ k ∈ AA7, r7 k = true ∧ k.length ≤ 5 := by decide
  exact this k h
def At1 (t : Int) : Int → List K1 → Bool
  | _, [] => true
  | p, e :: l => (within e.Term p t && U7 e.Rec) && At1 t e.Term l
def AH6 (r : F3) (t : Int) : Bool := (decide ((r.Log.length : Int) ≤ 60) && within r.Sure 0 r.Log.length) && At1 t 1 r.Log
def Ac8 (n : Int) : Bool := n == 3 || n == 5
def BS1 (g : C8) (r : Int) : Bool := within r 0 ((g.Reps.length : Int) - 1)
def N8 (g : C8) (r : Int) : F3 := (g.Reps[r.toNat]?).getD ⟨false, [], 0⟩
def AF1 (g : C8) : Bool := ((Ac8 g.Reps.length && within g.Term 0 200) && (g.Lead == -1 || (BS1 g g.Lead && (N8 g g.Lead).Up))) && g.Reps.all fun r => AH6 r g.Term
def AI3 : C8 := ⟨[], 0, 0⟩
structure GR (r : F3) (t : Int) : Prop where
  len : r.Log.length ≤ 60
  sure : 0 ≤ r.Sure ∧ r.Sure ≤ r.Log.length
  ents : ∀ e ∈ r.Log, 1 ≤ e.Term ∧ e.Term ≤ t ∧ U7 e.Rec = true
  sorted : r.Log.Pairwise fun a b => a.Term ≤ b.Term
structure GG (g : C8) : Prop where
  many : g.Reps.length = 3 ∨ g.Reps.length = 5
  term : 0 ≤ g.Term ∧ g.Term ≤ 200
  lead : g.Lead = -1 ∨ (0 ≤ g.Lead ∧ g.Lead < g.Reps.length ∧ (N8 g g.Lead).Up = true)
  reps : ∀ r ∈ g.Reps, GR r g.Term
theorem CC9 {t : Int} : ∀ {l : List K1} {p : Int}, At1 t p l = true ↔ (∀ e ∈ l, p ≤ e.Term ∧ e.Term ≤ t ∧ U7 e.Rec = true) ∧ l.Pairwise fun a b => a.Term ≤ b.Term
  | [], p => by simp [At1]
  | e :: l, p => by
    unfold At1 within
    rw [F0, F0, F0, I4, I4, CC9, AC7];constructor
    · rintro ⟨⟨⟨h1, h2⟩, h3⟩, h4, h5⟩
      refine ⟨fun x hx => ?_, fun x hx => (h4 x hx).1, h5⟩;rcases O5.1 hx with rfl | hx
      · exact ⟨h1, h2, h3⟩
      · have := h4 x hx; exact ⟨by omega, this.2⟩
    · rintro ⟨h1, h2, h3⟩
      have h0 := h1 e W6;exact ⟨⟨⟨h0.1, h0.2.1⟩, h0.2.2⟩, fun x hx => ⟨h2 x hx, (h1 x (S7 _ hx)).2⟩, h3⟩
theorem Ca4 {r : F3} {t : Int} : AH6 r t = true ↔ GR r t := by
  unfold AH6 within
  simp only [F0, I4, CC9];constructor
  · rintro ⟨⟨h1, h2, h3⟩, h4, h5⟩; exact ⟨by omega, ⟨h2, h3⟩, h4, h5⟩
  · rintro ⟨h1, ⟨h2, h3⟩, h4, h5⟩; exact ⟨⟨by omega, h2, h3⟩, h4, h5⟩
theorem Au2 {g : C8} {r : Int} : BS1 g r = true ↔ 0 ≤ r ∧ r < g.Reps.length := by
  unfold BS1 within; simp only [F0, I4]; omega
theorem AP8 {g : C8} : AF1 g = true ↔ GG g := by
  unfold AF1 Ac8 within
  simp only [F0, AD7, I4, e8, l8, Ca4, Au2];constructor
  · rintro ⟨⟨⟨h1, h2⟩, h3⟩, h4⟩
    refine ⟨by omega, h2, ?_, h4⟩;rcases h3 with h | ⟨⟨h, k⟩, l⟩
    · exact .inl h
    · exact .inr ⟨h, k, l⟩
  · rintro ⟨h1, h2, h3, h4⟩
    refine ⟨⟨⟨by omega, h2⟩, ?_⟩, h4⟩;rcases h3 with h | ⟨h, k, l⟩
    · exact .inl h
    · exact .inr ⟨⟨h, k⟩, l⟩
theorem AB5 {g : C8} {r : Int} (h : 0 ≤ r ∧ r < g.Reps.length) : g.Reps[r.toNat]? = some (N8 g r) := by
  unfold N8;rw [O1 (show r.toNat < g.Reps.length by omega)]; rfl
theorem repAt_of {g : C8} {r : Int} {x : F3} (h : g.Reps[r.toNat]? = some x) : N8 g r = x := by unfold N8; rw [h]; rfl
theorem AF0 {g : C8} {r : Int} (h : 0 ≤ r ∧ r < g.Reps.length) : N8 g r ∈ g.Reps := C3 (AB5 h)
def AU9 (g : C8) (r : Int) (x : F3) : C8 := ⟨g.Reps.set r.toNat x, g.Term, g.Lead⟩
def BC4 (g : C8) (r : Int) (up : Bool) : Bool := (AF1 g && BS1 g r) && ((N8 g r).Up == up)
def w3 (g : C8) (r : Int) : C8 × Bool :=
  if BC4 g r true = true then (⟨g.Reps.set r.toNat ⟨false, (N8 g r).Log, (N8 g r).Sure⟩, g.Term, if g.Lead = r then -1 else g.Lead⟩, true) else (AI3, false)
def AA5 (g : C8) (r : Int) : C8 × Bool :=
  if BC4 g r false = true then (⟨g.Reps.set r.toNat ⟨true, (N8 g r).Log, (N8 g r).Sure⟩, g.Term, g.Lead⟩, true) else (AI3, false)
def AS7 (l : List K1) : Int := match l.getLast? with | some e => e.Term | none => 0
def Ar0 (a b : List K1) : Bool := decide (AS7 b < AS7 a) || (AS7 a == AS7 b && decide (b.length < a.length))
def Ba2 (g : C8) (p : F3 → Bool) : Bool := decide ((g.Reps.length : Int) < 2 * ((g.Reps.filter p).length : Int))
def X8 (g : C8) (r : Int) : C8 × Bool :=
  if (BC4 g r true && !(g.Term == 200)) = true ∧ Ba2 g (fun x => x.Up && !Ar0 x.Log (N8 g r).Log) = true then (⟨g.Reps, g.Term + 1, r⟩, true) else (AI3, false)
def AZ5 (g : C8) : Bool := AF1 g && decide (0 ≤ g.Lead)
def AE5 (g : C8) (r : O0) : C8 × Bool :=
  if (AZ5 g && U7 r) = true ∧ (N8 g g.Lead).Log.length < 60 then (AU9 g g.Lead ⟨(N8 g g.Lead).Up, (N8 g g.Lead).Log ++ [⟨g.Term, r⟩], (N8 g g.Lead).Sure⟩, true) else (AI3, false)
def AI1 (g : C8) (r : Int) : C8 × Bool :=
  if (BC4 g r true && decide (0 ≤ g.Lead)) = true ∧ g.Lead ≠ r then (AU9 g r ⟨true, (N8 g g.Lead).Log, min ((N8 g g.Lead).Log.length : Int) (max (N8 g r).Sure (N8 g g.Lead).Sure)⟩, true) else (AI3, false)
def AR5 (a b : List K1) (n : Nat) : Bool := decide (n ≤ a.length ∧ n ≤ b.length ∧ a.take n = b.take n)
def Ao5 (g : C8) (n : Nat) : Bool := decide ((((N8 g g.Lead).Log[n - 1]?).map K1.Term) = some g.Term) && Ba2 g fun x => AR5 x.Log (N8 g g.Lead).Log n
def AD4 (p : Nat → Bool) (lo : Nat) : Nat → Option Nat
  | 0 => none
  | n + 1 => if n + 1 ≤ lo then none else if p (n + 1) = true then some (n + 1) else AD4 p lo n
def AN0 (g : C8) : C8 × Bool :=
  if AZ5 g = true then (match AD4 (Ao5 g) (N8 g g.Lead).Sure.toNat (N8 g g.Lead).Log.length with
    | some n => (AU9 g g.Lead ⟨(N8 g g.Lead).Up, (N8 g g.Lead).Log, (n : Int)⟩, true)
    | none => (g, true)) else (AI3, false)
theorem BS5 {p : Nat → Bool} {lo : Nat} : ∀ {k n : Nat}, AD4 p lo k = some n → lo < n ∧ n ≤ k ∧ p n = true
  | 0, n, h => by cases h
  | k + 1, n, h => by
    unfold AD4 at h;split at h
    · cases h
    · split at h
      · injection h with h; subst h; exact ⟨by omega, L5 _, ‹_›⟩
      · have := BS5 h; exact ⟨this.1, by omega, this.2.2⟩
theorem Ab8 {g : C8} {r : Int} {up : Bool} : BC4 g r up = true ↔ GG g ∧ (0 ≤ r ∧ r < g.Reps.length) ∧ (N8 g r).Up = up := by
  unfold BC4;rw [F0, F0, AP8, Au2, e8];constructor
  · rintro ⟨⟨a, b⟩, c⟩; exact ⟨a, b, c⟩
  · rintro ⟨a, b, c⟩; exact ⟨⟨a, b⟩, c⟩
theorem Ag2 {g : C8} : AZ5 g = true ↔ GG g ∧ 0 ≤ g.Lead ∧ g.Lead < g.Reps.length ∧ (N8 g g.Lead).Up = true := by
  unfold AZ5;rw [F0, AP8, I4];constructor
  · rintro ⟨a, b⟩
    rcases a.lead with h | ⟨h1, h2, h3⟩
    · omega
    · exact ⟨a, h1, h2, h3⟩
  · rintro ⟨a, b, _⟩; exact ⟨a, b⟩
theorem Bx0 {g : C8} {r : Int} {x : F3} {t l : Int} (h : 0 ≤ r ∧ r < g.Reps.length) : N8 ⟨g.Reps.set r.toNat x, t, l⟩ r = x := by
  unfold N8;dsimp only;rw [AR3 qz8]; rfl
theorem BB2 {g : C8} {r q : Int} {x : F3} {t l : Int} (hr : 0 ≤ r) (hq : 0 ≤ q) (h : q ≠ r) : N8 ⟨g.Reps.set r.toNat x, t, l⟩ q = N8 g q := by
  unfold N8;dsimp only;rw [Aa8 qz8]
theorem gr_mono {r : F3} {t u : Int} (h : GR r t) (k : t ≤ u) : GR r u := ⟨h.len, h.sure, fun e he => by have := h.ents e he; exact ⟨this.1, by omega, this.2.2⟩, h.sorted⟩
theorem Bk3 {g : C8} (h : GG g) {r : Int} {x : F3} (hx : GR x g.Term) : ∀ y ∈ g.Reps.set r.toNat x, GR y g.Term := fun y hy => by
  rcases List.mem_or_eq_of_mem_set hy with hy | rfl
  · exact h.reps y hy
  · exact hx
theorem Cl4 {g : C8} {r : Int} (h : (w3 g r).2 = true) : GG (w3 g r).1 ∧ (w3 g r).1.Reps.length = g.Reps.length := by
  unfold w3 at h ⊢;by_cases hc : BC4 g r true = true
  · rw [D1 hc] at h ⊢
    obtain ⟨gg, hr, hu⟩ := Ab8.1 hc;have hg := gg.reps _ (AF0 hr);refine ⟨⟨?_, gg.term, ?_, Bk3 gg ⟨hg.len, hg.sure, hg.ents, hg.sorted⟩⟩, V4 ..⟩
    · show (g.Reps.set _ _).length = 3 ∨ (g.Reps.set _ _).length = 5
      rw [V4]; exact gg.many
    · dsimp only
      by_cases hl : g.Lead = r
      · rw [D1 hl]; exact .inl rfl
      · rw [D4 hl]
        rcases gg.lead with e | ⟨a, b, c⟩
        · exact .inl e
        · refine .inr ⟨a, by rw [V4]; exact b, ?_⟩
          have := BB2 (g := g) (x := ⟨false, (N8 g r).Log, (N8 g r).Sure⟩) (t := g.Term) (l := g.Lead) hr.1 a hl;rw [this]; exact c
  · rw [D4 hc] at h; cases h
theorem Cl5 {g : C8} {r : Int} (h : (AA5 g r).2 = true) : GG (AA5 g r).1 ∧ (AA5 g r).1.Reps.length = g.Reps.length := by
  unfold AA5 at h ⊢;by_cases hc : BC4 g r false = true
  · rw [D1 hc] at h ⊢
    obtain ⟨gg, hr, hu⟩ := Ab8.1 hc;have hg := gg.reps _ (AF0 hr);refine ⟨⟨?_, gg.term, ?_, Bk3 gg ⟨hg.len, hg.sure, hg.ents, hg.sorted⟩⟩, V4 ..⟩
    · show (g.Reps.set _ _).length = 3 ∨ (g.Reps.set _ _).length = 5
      rw [V4]; exact gg.many
    · dsimp only
      rcases gg.lead with e | ⟨a, b, c⟩
      · exact .inl e
      · refine .inr ⟨a, by rw [V4]; exact b, ?_⟩
        by_cases hl : g.Lead = r
        · rw [hl] at c; rw [hu] at c; cases c
        · have := BB2 (g := g) (x := ⟨true, (N8 g r).Log, (N8 g r).Sure⟩) (t := g.Term) (l := g.Lead) hr.1 a hl
          rw [this]; exact c
  · rw [D4 hc] at h; cases h
theorem Bo8 {g : C8} {r : Int} (h : (X8 g r).2 = true) : GG (X8 g r).1 ∧ (X8 g r).1.Reps.length = g.Reps.length ∧ (X8 g r).1.Lead = r ∧ 0 ≤ r ∧ r < g.Reps.length := by
  unfold X8 at h ⊢;split at h
  · rename_i hc
    rw [D1 hc];rw [F0, l7, beq_eq_false_iff_ne] at hc;obtain ⟨gg, hr, hu⟩ := Ab8.1 hc.1.1;have ht := gg.term;exact ⟨⟨gg.many, by dsimp only; omega, .inr ⟨hr.1, hr.2, hu⟩, fun y hy => gr_mono (gg.reps y hy) (by dsimp only; omega)⟩, rfl, rfl, hr.1, hr.2⟩
  · cases h
theorem BG8 {g : C8} (gg : GG g) {r : Int} (hr : 0 ≤ r ∧ r < g.Reps.length) {x : F3} (hx : GR x g.Term) (hu : x.Up = (N8 g r).Up) : GG (AU9 g r x) := by
  refine ⟨?_, gg.term, ?_, Bk3 gg hx⟩
  · show (g.Reps.set _ _).length = 3 ∨ (g.Reps.set _ _).length = 5
    rw [V4]; exact gg.many
  · show g.Lead = -1 ∨ (0 ≤ g.Lead ∧ g.Lead < ((g.Reps.set r.toNat x).length : Int) ∧ (N8 ⟨g.Reps.set r.toNat x, g.Term, g.Lead⟩ g.Lead).Up = true)
    rcases gg.lead with e | ⟨a, b, c⟩
    · exact .inl e
    · refine .inr ⟨a, by rw [V4]; exact b, ?_⟩
      by_cases hl : g.Lead = r
      · have := Bx0 (g := g) (x := x) (t := g.Term) (l := g.Lead) hr
        rw [hl] at c this ⊢;rw [this, hu]; exact c
      · have := BB2 (g := g) (x := x) (t := g.Term) (l := g.Lead) hr.1 a hl
        rw [this]; exact c
theorem BP2 (g : C8) (r : Int) (x : F3) : (AU9 g r x).Reps.length = g.Reps.length := V4 ..
theorem Cs8 {g : C8} {r : O0} (ht : 1 ≤ g.Term) (h : (AE5 g r).2 = true) : GG (AE5 g r).1 ∧ (AE5 g r).1.Reps.length = g.Reps.length ∧ (AE5 g r).1.Lead = g.Lead := by
  unfold AE5 at h ⊢;split at h
  · rename_i hc
    rw [D1 hc];rw [F0] at hc;obtain ⟨gg, h1, h2, h3⟩ := Ag2.1 hc.1.1;have hg := gg.reps _ (AF0 ⟨h1, h2⟩);refine ⟨BG8 gg ⟨h1, h2⟩ ⟨?_, ?_, fun e he => ?_, ?_⟩ rfl, BP2 .., rfl⟩
    · rw [G3]; have := hc.2; simp; omega
    · have := hg.sure; rw [G3]; simp; omega
    · rcases Z7.1 he with he | he
      · exact hg.ents e he
      · rw [V8.1 he]
        exact ⟨ht, Int.le_refl _, hc.1.2⟩
    · rw [List.pairwise_append]
      exact ⟨hg.sorted, List.pairwise_singleton _ _, fun a ha b hb => by rw [V8.1 hb]; exact (hg.ents a ha).2.1⟩
  · cases h
theorem Cs9 {g : C8} {r : Int} (h : (AI1 g r).2 = true) : GG (AI1 g r).1 ∧ (AI1 g r).1.Reps.length = g.Reps.length ∧ (AI1 g r).1.Lead = g.Lead := by
  unfold AI1 at h ⊢;split at h
  · rename_i hc
    rw [D1 hc];rw [F0, I4] at hc;obtain ⟨gg, hr, hu⟩ := Ab8.1 hc.1.1;have hl : 0 ≤ g.Lead ∧ g.Lead < g.Reps.length := by rcases gg.lead with e | ⟨a, b, _⟩; omega; exact ⟨a, b⟩
    have hg := gg.reps _ (AF0 hl);have hq := gg.reps _ (AF0 hr);refine ⟨BG8 gg hr ⟨hg.len, ?_, hg.ents, hg.sorted⟩ hu.symm, BP2 .., rfl⟩;have h1 := hg.sure;have h2 := hq.sure;dsimp only;omega
  · cases h
theorem adv_good {g : C8} (h : (AN0 g).2 = true) : GG (AN0 g).1 ∧ (AN0 g).1.Reps.length = g.Reps.length ∧ (AN0 g).1.Lead = g.Lead := by
  unfold AN0 at h ⊢;split at h
  · rename_i hc
    rw [D1 hc];obtain ⟨gg, h1, h2, h3⟩ := Ag2.1 hc;have hg := gg.reps _ (AF0 ⟨h1, h2⟩);split
    · rename_i n hn
      have := BS5 hn;exact ⟨BG8 gg ⟨h1, h2⟩ ⟨hg.len, ⟨by dsimp only; omega, by dsimp only; omega⟩, hg.ents, hg.sorted⟩ rfl, BP2 .., rfl⟩
    · exact ⟨gg, rfl, rfl⟩
  · cases h
theorem BP3 {g : C8} {r : Int} : ((w3 g r).2 = true → (w3 g r).1.Term = g.Term) ∧ ((AA5 g r).2 = true → (AA5 g r).1.Term = g.Term) ∧ ((X8 g r).2 = true → (X8 g r).1.Term = g.Term + 1) ∧ ((AI1 g r).2 = true → (AI1 g r).1.Term = g.Term) := by
  unfold w3 AA5 X8 AI1 AU9;refine ⟨?_, ?_, ?_, ?_⟩ <;> (split <;> intro h <;> first | rfl | cases h)
theorem Ct0 {g : C8} {r : O0} (h : (AE5 g r).2 = true) : (AE5 g r).1.Term = g.Term := by
  unfold AE5 AU9 at *;split <;> first | rfl | (rename_i hc; rw [D4 hc] at h; cases h)
theorem adv_term {g : C8} (h : (AN0 g).2 = true) : (AN0 g).1.Term = g.Term := by
  unfold AN0 AU9 at *;split at h
  · rw [D1 ‹_›]; split <;> rfl
  · cases h
theorem Cl6 {g : C8} {r : Int} (h : (w3 g r).2 = true) : (w3 g r).1.Lead = -1 ∨ (w3 g r).1.Lead = g.Lead := by
  unfold w3 at h ⊢;split at h
  · rw [D1 ‹_›]; dsimp only; split; exact .inl rfl; exact .inr rfl
  · cases h
theorem Cl7 {g : C8} {r : Int} (h : (AA5 g r).2 = true) : (AA5 g r).1.Lead = g.Lead := by
  unfold AA5 at h ⊢;split at h
  · rw [D1 ‹_›]
  · cases h
def AP4 (P : O0 → Prop) (g : C8) : Prop := ∀ r ∈ g.Reps, ∀ e ∈ r.Log, P e.Rec
theorem Au3 {P : O0 → Prop} {g : C8} (h : AP4 P g) (r : Int) : ∀ e ∈ (N8 g r).Log, P e.Rec := by
  intro e he;unfold N8 at he
  cases hx : g.Reps[r.toNat]? with
  | none => rw [hx] at he; cases he
  | some x => rw [hx] at he; exact h x (C3 hx) e he
theorem BJ5 {P : O0 → Prop} {g : C8} (h : AP4 P g) {r : Int} {x : F3} (hx : ∀ e ∈ x.Log, P e.Rec) {t l : Int} : AP4 P ⟨g.Reps.set r.toNat x, t, l⟩ := by
  intro y hy;rcases List.mem_or_eq_of_mem_set hy with hy | rfl
  · exact h y hy
  · exact hx
theorem Ad6 {P : O0 → Prop} : AP4 P AI3 := fun r hr => by cases hr
theorem Ct1 {P : O0 → Prop} {g : C8} {r : Int} (h : AP4 P g) : AP4 P (w3 g r).1 := by
  unfold w3;split
  · refine BJ5 h ?_; exact Au3 h r
  · exact Ad6
theorem Ct2 {P : O0 → Prop} {g : C8} {r : Int} (h : AP4 P g) : AP4 P (AA5 g r).1 := by
  unfold AA5;split
  · refine BJ5 h ?_; exact Au3 h r
  · exact Ad6
theorem Ct3 {P : O0 → Prop} {g : C8} {r : Int} (h : AP4 P g) : AP4 P (X8 g r).1 := by
  unfold X8;split
  · exact h
  · exact Ad6
theorem put_log {P : O0 → Prop} {g : C8} {r : O0} (h : AP4 P g) (hr : P r) : AP4 P (AE5 g r).1 := by
  unfold AE5;split
  · refine BJ5 h fun e he => ?_
    rcases Z7.1 he with he | he
    · exact Au3 h _ e he
    · rw [V8.1 he]; exact hr
  · exact Ad6
theorem copy_log {P : O0 → Prop} {g : C8} {r : Int} (h : AP4 P g) : AP4 P (AI1 g r).1 := by
  unfold AI1;split
  · refine BJ5 h ?_; exact Au3 h g.Lead
  · exact Ad6
theorem adv_log {P : O0 → Prop} {g : C8} (h : AP4 P g) : AP4 P (AN0 g).1 := by
  unfold AN0;split
  · split
    · refine BJ5 h ?_; exact Au3 h g.Lead
    · exact h
  · exact Ad6
def Bt7 (r : O0) : Prop := ∀ w ∈ r.Writes, w.Key ∈ AA7
structure WG (g : C8) : Prop where
  good : GG g
  three : g.Reps.length = 3
  led : 0 ≤ g.Lead → 1 ≤ g.Term
  keys : AP4 Bt7 g
theorem wg_crash {g : C8} {r : Int} (w : WG g) (h : (w3 g r).2 = true) : WG (w3 g r).1 := by
  have h1 := Cl4 h;refine ⟨h1.1, h1.2.trans w.three, fun hl => ?_, Ct1 w.keys⟩;have := w.led;rw [(BP3 (g := g) (r := r)).1 h];rcases Cl6 h with e | e <;> rw [e] at hl
  · omega
  · exact this hl
theorem wg_start {g : C8} {r : Int} (w : WG g) (h : (AA5 g r).2 = true) : WG (AA5 g r).1 := by
  have h1 := Cl5 h;refine ⟨h1.1, h1.2.trans w.three, fun hl => ?_, Ct2 w.keys⟩;rw [(BP3 (g := g) (r := r)).2.1 h];rw [Cl7 h] at hl;exact w.led hl
theorem wg_elect {g : C8} {r : Int} (w : WG g) (h : (X8 g r).2 = true) : WG (X8 g r).1 := by
  have h1 := Bo8 h;refine ⟨h1.1, h1.2.1.trans w.three, fun hl => ?_, Ct3 w.keys⟩;rw [(BP3 (g := g) (r := r)).2.2.1 h];have := w.good.term;omega
theorem wg_copy {g : C8} {r : Int} (w : WG g) (h : (AI1 g r).2 = true) : WG (AI1 g r).1 := by
  have h1 := Cs9 h;refine ⟨h1.1, h1.2.1.trans w.three, fun hl => ?_, copy_log w.keys⟩;rw [(BP3 (g := g) (r := r)).2.2.2 h];rw [h1.2.2] at hl;exact w.led hl
theorem wg_put {g : C8} {r : O0} (w : WG g) (hl : 0 ≤ g.Lead) (hk : Bt7 r) (h : (AE5 g r).2 = true) : WG (AE5 g r).1 := by
  have h1 := Cs8 (w.led hl) h;refine ⟨h1.1, h1.2.1.trans w.three, fun _ => ?_, put_log w.keys hk⟩;rw [Ct0 h]; exact w.led hl
theorem wg_adv {g : C8} (w : WG g) (h : (AN0 g).2 = true) : WG (AN0 g).1 := by
  have h1 := adv_good h;refine ⟨h1.1, h1.2.1.trans w.three, fun hl => ?_, adv_log w.keys⟩;rw [adv_term h];rw [h1.2.2] at hl;exact w.led hl
def Cq6 (a b : AU4) : Bool := (a.Ver == b.Ver) && decide (a.Cuts = b.Cuts) && decide (a.Groups = b.Groups)
def hit (r : AU4 × Bool) (b : AU4) : Bool := r.2 && Cq6 r.1 b
abbrev AG9 (n : Nat) : Str := Lib.decDigits n
abbrev AH0 (n : Int) : Str := Lib.itoa n
theorem AR0 {n : Nat} (h : n < 10) : AG9 n = [UInt8.ofNat (48 + n)] := Lib.decDigits_one h
theorem Ab9 {n : Nat} (h : ¬ n < 10) : AG9 n = AG9 (n / 10) ++ [UInt8.ofNat (48 + n % 10)] := by
  show Lib.decDigits n = _
  rw [Lib.decDigits, dif_neg h]
theorem Ac0 : ∀ {k n : Nat}, n < 10 ^ k → 1 ≤ k → (AG9 n).length ≤ k
  | 0, _, _, h => by omega
  | k + 1, n, h, _ => by
    by_cases hn : n < 10
    · rw [AR0 hn]; simp
    · rw [Ab9 hn, G3]
      have : k ≠ 0 := by rintro rfl; simp at h; omega
      have h2 := Ac0 (k := k) (n := n / 10) (by rw [Nat.pow_succ] at h; omega) qz8;simp only [H1, P6]; omega
theorem BP4 (n : Nat) : AH0 n = AG9 n := Lib.itoa_nonneg n
theorem CR1 {n : Int} (h : 0 ≤ n) : AH0 n = AG9 n.toNat := by
  obtain ⟨m, rfl⟩ : ∃ m : Nat, n = (m : Int) := ⟨n.toNat, by omega⟩;rw [BP4]; rfl
theorem u8w2 {x : Int} {m : Nat} (h : x % 256 = ((m % 256 : Nat) : Int)) : IntKind.u8.wrap x = ((UInt8.ofNat m).toNat : Int) := by
  have : (UInt8.ofNat m).toNat = m % 256 := by simp
  rw [this, ← h];simp [IntKind.wrap, IntKind.bits, IntKind.signed]
theorem dig1 (n : Nat) : IntKind.u8.wrap (48 + (n : Int)) = ((UInt8.ofNat (48 + n)).toNat : Int) := u8w2 qz8
theorem tmod10T (n : Nat) : (n : Int).tmod 10 = ((n % 10 : Nat) : Int) := rfl
theorem dig2 (n : Nat) : IntKind.u8.wrap (48 + (n : Int).tmod 10) = ((UInt8.ofNat (48 + n % 10)).toNat : Int) := by
  rw [show (n : Int).tmod 10 = ((n % 10 : Nat) : Int) from rfl]; exact u8w2 qz8
theorem quo10 {n : Nat} (h : n ≤ 1000000000000) : IntKind.i64.wrap ((n : Int).tdiv 10) = ((n / 10 : Nat) : Int) := by
  rw [show (n : Int).tdiv 10 = ((n / 10 : Nat) : Int) from rfl];simp [IntKind.wrap, IntKind.bits, IntKind.signed];omega
def At2 (b : UInt8) : Bool := decide (48 ≤ b.toNat) && decide (b.toNat ≤ 57)
theorem CR2 (n : Nat) : ∀ b ∈ AG9 n, 48 ≤ b.toNat ∧ b.toNat ≤ 57 := by
  induction n using Nat.strongRecOn with
  | ind n ih =>
    intro b hb;by_cases h : n < 10
    · rw [AR0 h] at hb
      rw [V8.1 hb];have : (UInt8.ofNat (48 + n)).toNat = (48 + n) % 256 := by simp
      omega
    · rw [Ab9 h] at hb
      rcases Z7.1 hb with hb | hb
      · exact ih (n / 10) qz8 b hb
      · rw [V8.1 hb]
        have : (UInt8.ofNat (48 + n % 10)).toNat = (48 + n % 10) % 256 := by simp
        omega
theorem Ct4 {n : Nat} (hn : 0 < n) : ∃ d r, AG9 n = d :: r ∧ d.toNat ≠ 48 := by
  induction n using Nat.strongRecOn with
  | ind n ih =>
    by_cases h : n < 10
    · refine ⟨_, _, AR0 h, ?_⟩
      have : (UInt8.ofNat (48 + n)).toNat = (48 + n) % 256 := by simp
      omega
    · obtain ⟨d, r, e, hd⟩ := ih (n / 10) qz8 qz8
      exact ⟨d, r ++ [UInt8.ofNat (48 + n % 10)], by rw [Ab9 h, e]; rfl, hd⟩
theorem Cg1 (n : Nat) : AG9 n ≠ [] := by
  by_cases h : n < 10
  · rw [AR0 h]; simp
  · rw [Ab9 h]; simp
def V9 (n : Nat) : Str → Int
  | [] => n
  | b :: s => if At2 b = true then V9 (10 * n + (b.toNat - 48)) s else -1
def Av2 (s : Str) : Bool := !within s.length 1 6 || ((s.head?.map fun b => b == 48).getD false && decide ((1 : Int) < (s.length : Int)))
def l1R (s : Str) : Int := if Av2 s = true then -1 else V9 0 s
theorem Cg2 {d : UInt8} (hd : 48 ≤ d.toNat ∧ d.toNat ≤ 57) : ∀ (s : Str) (m v : Nat), V9 m s = (v : Int) → V9 m (s ++ [d]) = ((10 * v + (d.toNat - 48) : Nat) : Int)
  | [], m, v, h => by
    simp only [V9] at h;have : m = v := by omega
    subst this;simp only [AF5, V9];rw [D1 (by unfold At2; simp; omega)]
  | b :: s, m, v, h => by
    simp only [V9] at h;show V9 m (b :: (s ++ [d])) = _
    simp only [V9];split at h
    · rename_i h1
      rw [D1 h1];exact Cg2 hd s _ v h
    · exfalso; omega
theorem rd_dec (n : Nat) : V9 0 (AG9 n) = (n : Int) := by
  induction n using Nat.strongRecOn with
  | ind n ih =>
    by_cases h : n < 10
    · rw [AR0 h]
      have h8 : (UInt8.ofNat (48 + n)).toNat = 48 + n := by simp; omega
      simp only [V9, h8];rw [D1 (by unfold At2; rw [h8]; simp; omega)];congr 1; omega
    · rw [Ab9 h]
      have h8 : (UInt8.ofNat (48 + n % 10)).toNat = 48 + n % 10 := by simp; omega
      rw [Cg2 qz8 _ 0 (n / 10) (ih (n / 10) qz8), h8];congr 1; omega
theorem Cg3 {n : Nat} (h : n ≤ 999999) : l1R (AG9 n) = n := by
  have hl := Ac0 (k := 6) (n := n) qz8 D5;have hne := Cg1 n;have hpos : 1 ≤ (AG9 n).length := by
    cases hd : AG9 n with
    | nil => exact absurd hd hne
    | cons b r => simp
  unfold l1R;rw [D4, rd_dec];unfold Av2 within
  simp only [AD7, l7, F0, not_or, not_and];refine ⟨by simp; omega, fun hh hlt => ?_⟩;by_cases hz : n = 0
  · subst hz
    have : (AG9 0).length = 1 := by rw [AR0 D5]; rfl
    simp at hlt; omega
  · obtain ⟨d, r, e, hd⟩ := Ct4 (n := n) qz8
    rw [e] at hh;simp at hh;rw [hh] at hd;exact hd rfl
theorem CL9 {s o : Str} (h : AQ1 s o = true) {b : UInt8} (hn : (Ag5 b || o.any fun d => ((b.toNat : Int) == (d.toNat : Int))) = false) : b ∉ s := fun hb => by
  unfold AQ1 at h;have := l8.1 h b hb;rw [hn] at this; cases this
theorem dec_no {n : Nat} {c : UInt8} (h : c.toNat < 48 ∨ 57 < c.toNat) : c ∉ AG9 n := fun hm => by
  have := CR2 n c hm; omega
structure GoodC (c : AC0) : Prop where
  time : ∃ t : Nat, c.Time = (t : Int) ∧ 1 ≤ t ∧ t ≤ 100000
  group : ∃ g : Nat, c.Group = (g : Int) ∧ g ≤ 3
  key : 1 ≤ c.Key.length ∧ (32 : UInt8) ∉ c.Key ∧ (61 : UInt8) ∉ c.Key
  val : (32 : UInt8) ∉ c.Val ∧ (61 : UInt8) ∉ c.Val
  gone : c.Gone = true → c.Val = []
def Af2 (k : Int) : Bool := k == 2 || k == 7
def Ao6 (k : Int) : Bool := k == 4 || k == 5
def BI0 (o : TOp) : Bool := within o.Kind 1 7 && r7 o.Key && AZ2 o.Val && (Af2 o.Kind || o.Val == []) && within o.By (-9999) 9999 && (Ao6 o.Kind || o.By == 0)
def AF2 (l : List TOp) : Bool := decide ((l.length : Int) ≤ 8) && !(l.any fun o => !BI0 o)
def Ba3 (o : TOp) : Bool := if m7 o.Key = false then false else if Af2 o.Kind = true then AJ5 o.Val && (o.By == 0) else if Ao6 o.Kind = true then (o.Val == []) && within o.By (-9999) 9999 else (((o.Kind == 1 || o.Kind == 3) || o.Kind == 6) && o.Val == []) && (o.By == 0)
def Ao7 (l : List TOp) : Bool := l.all Ba3 && decide ((l.length : Int) ≤ 8)
theorem Cg4 (o : TOp) : BI0 o = Ba3 o := by
  obtain ⟨K, k, v, b⟩ := o;unfold BI0 Ba3 Af2 Ao6 within
  dsimp only;rw [AW4, Bn8];have hv : AJ5 [] = true := by decide
  cases hk : m7 k with
  | false => simp
  | true =>
    simp only [Bool.and_true, Bool.true_eq_false, if_false];by_cases h2 : K = 2
    · subst h2; cases AJ5 v <;> simp <;> (by_cases hb : b = 0 <;> simp [hb])
    · by_cases h7 : K = 7
      · subst h7; cases AJ5 v <;> simp <;> (by_cases hb : b = 0 <;> simp [hb])
      · have e2 : (K == 2) = false := by simpa using h2
        have e7 : (K == 7) = false := by simpa using h7
        by_cases h4 : K = 4
        · subst h4; cases v <;> simp [hv]
        · by_cases h5 : K = 5
          · subst h5; cases v <;> simp [hv]
          · have e4 : (K == 4) = false := by simpa using h4
            have e5 : (K == 5) = false := by simpa using h5
            rw [e2, e7, e4, e5]
            cases v with
            | nil =>
              by_cases hb : b = 0
              · subst hb
                rw [AP2];simp [hv]; omega
              · have eb : (b == 0) = false := by simpa using hb
                simp [eb]
            | cons c v => simp
theorem Bo9 (l : List TOp) : AF2 l = Ao7 l := by
  unfold AF2 Ao7;rw [List.not_any_eq_all_not, Bool.and_comm];congr 1
  congr 1; funext o; rw [Bool.not_not, Cg4]
def l5N (s : Str) : Int × Bool :=
  if (decide (l1R (if s.head? = some 45 then s.drop 1 else s) < 0) || (decide (s.head? = some 45) && (l1R (if s.head? = some 45 then s.drop 1 else s) == 0))) = true then (0, false)
  else if s.head? = some 45 then (-(l1R (s.drop 1)), true) else (l1R s, true)
structure GoodO (o : TOp) : Prop where
  kind : 1 ≤ o.Kind ∧ o.Kind ≤ 7
  key : (32 : UInt8) ∉ o.Key ∧ (59 : UInt8) ∉ o.Key
  val : (32 : UInt8) ∉ o.Val ∧ (59 : UInt8) ∉ o.Val
  noval : Af2 o.Kind = false → o.Val = []
  noby : Ao6 o.Kind = false → o.By = 0
  by' : -9999 ≤ o.By ∧ o.By ≤ 9999
theorem Am8 {n : Nat} (h : 1 ≤ n) : AH0 (-(n : Int)) = 45 :: AG9 n := by
  show Lib.itoa _ = _
  unfold Lib.itoa;rw [D1 qz8]; simp
theorem Cg5 {n : Int} {c : UInt8} (h : (c.toNat < 48 ∨ 57 < c.toNat) ∧ c ≠ 45) : c ∉ AH0 n := by
  show c ∉ Lib.itoa n
  unfold Lib.itoa;split
  · intro hm
    rcases O5.1 hm with e | hm
    · exact h.2 e
    · exact dec_no h.1 hm
  · exact dec_no h.1
theorem Bk4 {n : Nat} : (AG9 n).head? ≠ some 45 := fun h => by
  have := CR2 n 45 (List.mem_of_mem_head? h)
  revert this; decide
theorem CR3 {n : Int} (hn : -999999 ≤ n ∧ n ≤ 999999) : l5N (AH0 n) = (n, true) := by
  by_cases h0 : 0 ≤ n
  · obtain ⟨m, rfl⟩ : ∃ m : Nat, n = (m : Int) := ⟨n.toNat, by omega⟩
    have e := Cg3 (n := m) qz8;unfold l5N;rw [BP4, D4 (c := (AG9 m).head? = some 45) Bk4, e, D4 (by simp [Bk4]), D4 Bk4]
  · obtain ⟨m, rfl⟩ : ∃ m : Nat, n = -(m : Int) := ⟨n.natAbs, by omega⟩
    have e := Cg3 (n := m) qz8;have hh : (45 :: AG9 m : Str).head? = some 45 := rfl;have hd : (45 :: AG9 m : Str).drop 1 = AG9 m := rfl;unfold l5N;rw [Am8 qz8, D1 (c := (45 :: AG9 m : Str).head? = some 45) hh, hd, e, D4 AN6, D1 hh]
theorem Ct5 {n : Int} (h : -9999 ≤ n ∧ n ≤ 9999) : (AH0 n).length ≤ 5 := by
  by_cases h0 : 0 ≤ n
  · rw [CR1 h0]
    have := Ac0 (k := 4) (n := n.toNat) qz8 D5; omega
  · obtain ⟨m, rfl⟩ : ∃ m : Nat, n = -(m : Int) := ⟨n.natAbs, by omega⟩
    rw [Am8 qz8];have := Ac0 (k := 4) (n := m) qz8 D5;simp only [H1]; omega
theorem Cl8 {l : List TOp} (h : AF2 l = true) : ∀ o ∈ l, BI0 o = true := fun o ho => by
  rw [Bo9] at h;unfold Ao7 at h;rw [F0, l8] at h;rw [Cg4]; exact h.1 o ho
theorem CR4 {d : UInt8} : ∀ (s : Str) (m n : Nat), V9 m (s ++ [d]) = (n : Int) → ∃ v : Nat, V9 m s = (v : Int) ∧ (48 ≤ d.toNat ∧ d.toNat ≤ 57) ∧ n = 10 * v + (d.toNat - 48)
  | [], m, n, h => by
    simp only [AF5, V9] at h;split at h
    · rename_i hd
      refine ⟨m, rfl, ?_, by omega⟩;unfold At2 at hd; simp at hd; omega
    · exfalso; omega
  | b :: s, m, n, h => by
    show ∃ v : Nat, (if At2 b = true then V9 (10 * m + (b.toNat - 48)) s else -1) = (v : Int) ∧ _
    have h2 : (if At2 b = true then V9 (10 * m + (b.toNat - 48)) (s ++ [d]) else -1) = (n : Int) := h;split at h2
    · rename_i hb
      rw [D1 hb];exact CR4 s _ n h2
    · exfalso; omega
theorem rd_ge : ∀ (s : Str) (m n : Nat), V9 m s = (n : Int) → m ≤ n
  | [], m, n, h => by simp only [V9] at h; omega
  | b :: s, m, n, h => by
    simp only [V9] at h;split at h
    · have := rd_ge s _ n h; omega
    · exfalso; omega
theorem u8_dig {d : UInt8} (h : 48 ≤ d.toNat ∧ d.toNat ≤ 57) : UInt8.ofNat (48 + (d.toNat - 48)) = d := by
  apply UInt8.toNat_inj.1
  simp; omega
theorem dec_of : ∀ (k : Nat) (s : Str) (n : Nat), s.length = k + 1 → V9 0 s = (n : Int) → (s.head? ≠ some 48 ∨ k = 0) → AG9 n = s
  | 0, s, n, hl, h, _ => by
    match s, hl with
    | [d], _ =>
      obtain ⟨v, h1, h2, h3⟩ := CR4 [] 0 n h;simp only [V9] at h1;have hv : v = 0 := by omega
      subst hv;rw [AR0 qz8, h3, show 48 + (10 * 0 + (d.toNat - 48)) = 48 + (d.toNat - 48) by omega, u8_dig h2]
  | k + 1, s, n, hl, h, hh => by
    have hne : s ≠ [] := by rintro rfl; simp at hl
    obtain ⟨t, d, rfl⟩ : ∃ t d, s = t ++ [d] := ⟨s.dropLast, s.getLast hne, (List.dropLast_concat_getLast hne).symm⟩;have htl : t.length = k + 1 := by simpa using hl
    obtain ⟨v, h1, h2, h3⟩ := CR4 t 0 n h
    match t, htl with
    | b :: t', _ =>
      have hb : b ≠ 48 := by
        rcases hh with hh | hh
        · intro e; subst e; simp at hh
        · omega
      have ih := dec_of k (b :: t') v AQ3 h1 (.inl (by simpa using hb));have hv : 1 ≤ v := by
        simp only [V9] at h1;split at h1
        · rename_i hd
          have h9 := rd_ge t' _ v h1;have h8 : b.toNat ≠ 48 := fun e => hb (UInt8.toNat_inj.1 e);unfold At2 at hd; simp at hd;omega
        · exfalso; omega
      rw [Ab9 qz8, show n / 10 = v by omega, show n % 10 = d.toNat - 48 by omega, u8_dig h2, ih]
theorem Bk5 {s : Str} (h : 0 ≤ l1R s) : s = AG9 (l1R s).toNat := by
  unfold l1R at h ⊢;by_cases hb : Av2 s = true
  · rw [D1 hb] at h; omega
  · rw [D4 hb] at h ⊢
    obtain ⟨n, hn⟩ : ∃ n : Nat, V9 0 s = (n : Int) := ⟨(V9 0 s).toNat, by omega⟩;rw [hn];have hc : within s.length 1 6 = true ∧ ((s.head?.map fun b => b == 48).getD false && decide ((1 : Int) < (s.length : Int))) = false := by
      unfold Av2 at hb;simp only [AD7, not_or, l7, Bool.not_eq_false] at hb;exact ⟨hb.1, by simpa using hb.2⟩
    have hl : 1 ≤ s.length := by have := hc.1; unfold within at this; simp at this; omega
    refine (dec_of (s.length - 1) s n qz8 hn ?_).symm
    cases s with
    | nil => simp at hl
    | cons b r =>
      by_cases hz : r.length = 0
      · exact .inr (by simpa using hz)
      · left
        have h2 := hc.2;simp only [List.head?_cons, AB2, Option.getD_some, Bool.and_eq_false_iff, AP0] at h2;rcases h2 with h2 | h2
        · simpa using h2
        · exfalso; simp at h2; omega
theorem l5N_back {s : Str} {n : Int} (h : l5N s = (n, true)) : s = AH0 n ∧ -999999 ≤ n ∧ n ≤ 999999 := by
  have up : ∀ t : Str, 0 ≤ l1R t → l1R t ≤ 999999 := fun t ht => by
    have e := Bk5 ht;have hl : t.length ≤ 6 := by
      unfold l1R at ht;split at ht
      · omega
      · rename_i hb
        unfold Av2 within at hb
        simp at hb; omega
    rw [e] at hl;have hnn : l1R t = ((l1R t).toNat : Int) := by omega
    by_cases hb : (l1R t).toNat ≤ 999999
    · omega
    · exfalso
      have : ∀ m : Nat, 10 ^ 6 ≤ m → 7 ≤ (AG9 m).length := by
        intro m;have step : ∀ k m : Nat, 10 ^ k ≤ m → k + 1 ≤ (AG9 m).length := by
          intro k;induction k with
          | zero => intro m _; have := Cg1 m; cases hd : AG9 m with | nil => exact absurd hd this | cons b r => simp
          | succ k ih =>
            intro m hm;have h10 : ¬ m < 10 := by rw [Nat.pow_succ] at hm; have := Nat.one_le_pow k 10 D5; omega
            rw [Ab9 h10, G3];have := ih (m / 10) (by rw [Nat.pow_succ] at hm; omega);simp only [H1, P6]; omega
        exact step 6 m
      have := this (l1R t).toNat qz8;omega
  unfold l5N at h;by_cases hh : s.head? = some 45
  · rw [D1 (c := s.head? = some 45) hh] at h
    split at h
    · cases h
    · rename_i hc
      injection h with h _
      simp only [AD7, I4, F0, e8, not_or, not_and] at hc;have h0 := hc.2 hh;have h1 : 0 ≤ l1R (s.drop 1) := by omega
      have e := Bk5 h1;have hu := up _ h1
      cases s with
      | nil => cases hh
      | cons b r =>
        simp at hh; subst hh;have e2 : r = AG9 (l1R r).toNat := e;have h1' : 0 ≤ l1R r := h1;have h0' : ¬ l1R r = 0 := h0;have hu' : l1R r ≤ 999999 := hu;have hn : n = -(((l1R r).toNat : Nat) : Int) := by rw [← h]; show -(l1R r) = _; omega
        refine ⟨?_, by omega, by omega⟩;rw [hn, Am8 qz8, ← e2]
  · rw [D4 (c := s.head? = some 45) hh] at h
    split at h
    · cases h
    · rename_i hc
      injection h with h _
      simp only [AD7, I4, not_or] at hc;have h1 : 0 ≤ l1R s := by omega
      have e := Bk5 h1;have hu := up _ h1;have hn : n = (((l1R s).toNat : Nat) : Int) := by omega
      refine ⟨?_, by omega, by omega⟩;rw [hn, BP4, ← e]
theorem l5N_fail (s : Str) (h : (l5N s).2 = false) : l5N s = (0, false) := by
  unfold l5N at h ⊢;by_cases hh : s.head? = some 45
  · rw [D1 (c := s.head? = some 45) hh] at h ⊢
    split
    · rfl
    · rename_i hc; rw [D4 hc, D1 hh] at h; cases h
  · rw [D4 (c := s.head? = some 45) hh] at h ⊢
    split
    · rfl
    · rename_i hc; rw [D4 hc, D4 hh] at h; cases h
def E7 (buf : List A4) (got : List H4) (k : Str) : Str × Bool × Bool :=
  match buf.find? (fun w => w.Key == k) with
  | some w => (w.Val, !w.Gone, true)
  | none => match got.find? (fun g => g.Key == k) with
    | some g => (g.Val, g.There, true)
    | none => ([], false, false)
def AK9 (o : TOp) (val : Str) (there : Bool) : Bool :=
  if o.Kind = 4 then (if there = true then !(l5N val).2 || !within ((l5N val).1 + o.By) (-999999) 999999 else false)
  else if o.Kind = 5 then (!there || !(l5N val).2) || decide ((l5N val).1 < o.By)
  else if o.Kind = 6 then there
  else if o.Kind = 7 then !there || (val != o.Val)
  else false
def BS2 (o : TOp) (val : Str) (there : Bool) : Int := (if there = true then (l5N val).1 else 0) + o.By
def Z3 (o : TOp) (val : Str) (there : Bool) (buf : List A4) : List A4 :=
  if o.Kind = 2 then ins buf ⟨o.Key, o.Val, false⟩
  else if o.Kind = 3 then ins buf ⟨o.Key, [], true⟩
  else if o.Kind = 4 then ins buf ⟨o.Key, AH0 (BS2 o val there), false⟩
  else buf
def asks (o : TOp) (s : Str × Bool × Bool) : Bool := (!s.2.2 && (o.Kind != 2)) && (o.Kind != 3)
def AI9 (got : List H4) : List A4 → List TOp → Int × Str × List A4
  | buf, [] => (3, [], buf)
  | buf, o :: l =>
    if asks o (E7 buf got o.Key) = true then (1, o.Key, [])
    else if AK9 o (E7 buf got o.Key).1 (E7 buf got o.Key).2.1 = true then (2, [], [])
    else AI9 got (Z3 o (E7 buf got o.Key).1 (E7 buf got o.Key).2.1 buf) l
def Q4 (l : List TOp) (got : List H4) : Int × Str × List A4 := AI9 got [] l
theorem BP5 {w : A4} {k : Str} : ∀ {l : List A4}, k ∈ U0 (ins l w) ↔ k = w.Key ∨ k ∈ U0 l
  | [] => by unfold ins U0; simp
  | x :: l => by
    have ih := BP5 (w := w) (k := k) (l := l);unfold U0 at ih ⊢;unfold ins;split
    · rw [T3, T3, O5, O5, ih]
      constructor
      · rintro (e | e | e); exact .inr (.inl e); exact .inl e; exact .inr (.inr e)
      · rintro (e | e | e); exact .inr (.inl e); exact .inl e; exact .inr (.inr e)
    · split
      · rename_i h
        rw [T3, T3, O5, O5, h];constructor
        · rintro (e | e); exact .inl e; exact .inr (.inr e)
        · rintro (e | e | e); exact .inl e; exact .inl e; exact .inr e
      · rw [T3, T3, O5, O5]
theorem AK1 {o : TOp} {v : Str} {t : Bool} {buf : List A4} (h : adj T1 buf = true) : adj T1 (Z3 o v t buf) = true := by
  unfold Z3;split
  · exact Ap9 h
  · split
    · exact Ap9 h
    · split
      · exact Ap9 h
      · exact h
theorem AK2 {o : TOp} {v : Str} {t : Bool} {buf : List A4} : (Z3 o v t buf).length ≤ buf.length + 1 := by
  unfold Z3;split
  · exact BJ3.2
  · split
    · exact BJ3.2
    · split
      · exact BJ3.2
      · omega
theorem Ct6 {n : Int} (h : -999999 ≤ n ∧ n ≤ 999999) : (AH0 n).length ≤ 7 := by
  by_cases hn : 0 ≤ n
  · rw [CR1 hn]
    have := Ac0 (k := 6) (n := n.toNat) qz8 D5; omega
  · obtain ⟨m, rfl⟩ : ∃ m : Nat, n = -(m : Int) := ⟨n.natAbs, by omega⟩
    rw [Am8 qz8];have := Ac0 (k := 6) (n := m) qz8 D5;simp only [H1]; omega
theorem BP6 {o : TOp} {v : Str} {t : Bool} (hk : o.Kind = 4) (hb : -10000 ≤ o.By ∧ o.By ≤ 10000) (h : AK9 o v t = false) : -999999 ≤ BS2 o v t ∧ BS2 o v t ≤ 999999 := by
  unfold AK9 at h;rw [D1 hk] at h;unfold BS2
  cases t with
  | false => rw [D4 D5]; omega
  | true =>
    rw [D1 rfl] at h ⊢;simp only [AL2, Ae3] at h;have := h.2;unfold within at this
    simp only [F0, I4] at this;exact this
theorem AK3 {o : TOp} {v : Str} {t : Bool} {buf : List A4} {n : Nat} (ho : o.size ≤ n) (hn : 19 ≤ n) (hb : -10000 ≤ o.By ∧ o.By ≤ 10000) (hk : o.Key.length ≤ 12 ∨ o.Kind ≠ 4) (hg : AK9 o v t = false) (h : ∀ w ∈ buf, w.size ≤ n) : ∀ w ∈ Z3 o v t buf, w.size ≤ n := by
  have hos : o.Key.length ≤ n ∧ o.Key.length + o.Val.length ≤ n := by unfold TOp.size at ho; omega
  unfold Z3;split
  · intro w hw
    rcases Az0 hw with rfl | hw
    · unfold A4.size; exact hos.2
    · exact h w hw
  · split
    · intro w hw
      rcases Az0 hw with rfl | hw
      · unfold A4.size; simp only [P6]; omega
      · exact h w hw
    · split
      · rename_i h2 h3 h4
        intro w hw;rcases Az0 hw with rfl | hw
        · have := Ct6 (BP6 h4 hb hg)
          unfold A4.size;dsimp only;rcases hk with hk | hk
          · omega
          · exact absurd h4 hk
        · exact h w hw
      · exact h
theorem Cl9 {o : TOp} {v : Str} {t : Bool} {buf : List A4} {k : Str} (h : k ∈ U0 (Z3 o v t buf)) : k = o.Key ∨ k ∈ U0 buf := by
  unfold Z3 at h;split at h
  · exact BP5.1 h
  · split at h
    · exact BP5.1 h
    · split at h
      · exact BP5.1 h
      · exact .inr h
structure Ran (l : List TOp) (got : List H4) (b : Nat) (n : Nat) (r : Int × Str × List A4) : Prop where
  adj : adj T1 r.2.2 = true
  len : r.2.2.length ≤ b + l.length
  size : ∀ w ∈ r.2.2, w.size ≤ n
  ed : r.1 = 1 ∨ r.1 = 2 ∨ r.1 = 3
  ask : r.1 = 1 → (∃ o ∈ l, o.Key = r.2.1) ∧ ∀ g ∈ got, g.Key ≠ r.2.1
  klen : r.2.1.length ≤ n
structure Af3 (n : Nat) (o : TOp) : Prop where
  size : o.size ≤ n
  by' : -10000 ≤ o.By ∧ o.By ≤ 10000
  key : o.Key.length ≤ 12
theorem CR5 {buf : List A4} {got : List H4} {k : Str} (h : (E7 buf got k).2.2 = false) : (∀ w ∈ buf, w.Key ≠ k) ∧ ∀ g ∈ got, g.Key ≠ k := by
  unfold E7 at h;split at h
  · cases h
  · rename_i hb
    split at h
    · cases h
    · rename_i hg
      refine ⟨fun w hw e => ?_, fun g hg2 e => ?_⟩
      · have := List.find?_eq_none.1 hb w hw; simp [e] at this
      · have := List.find?_eq_none.1 hg g hg2; simp [e] at this
theorem CR6 {got : List H4} {n : Nat} (hn : 19 ≤ n) : ∀ {l : List TOp} {buf : List A4}, (∀ o ∈ l, Af3 n o) → adj T1 buf = true → (∀ w ∈ buf, w.size ≤ n) → Ran l got buf.length n (AI9 got buf l)
  | [], buf, _, ha, hs => ⟨ha, L5 _, hs, .inr (.inr rfl), fun h => absurd h (show ¬ (3 : Int) = 1 by decide), D6 _⟩
  | o :: l, buf, ho, ha, hs => by
    have h0 := ho o W6;unfold AI9;split
    · rename_i hk
      unfold asks at hk;simp only [F0, l7] at hk;refine ⟨rfl, D6 _, fun w hw => (by cases hw), .inl rfl, fun _ => ⟨⟨o, W6, rfl⟩, (CR5 hk.1.1).2⟩, ?_⟩;have := h0.key; dsimp only; omega
    · split
      · exact ⟨rfl, D6 _, fun w hw => (by cases hw), .inr (.inl rfl), fun h => absurd h D5, D6 _⟩
      · rename_i hk hg
        rw [Bool.not_eq_true] at hg;have ih := CR6 (got := got) hn (l := l) (buf := Z3 o (E7 buf got o.Key).1 (E7 buf got o.Key).2.1 buf) (fun x hx => ho x (S7 _ hx)) (AK1 ha) (AK3 h0.size hn h0.by' (.inl h0.key) hg hs);have hl := AK2 (o := o) (v := (E7 buf got o.Key).1) (t := (E7 buf got o.Key).2.1) (buf := buf);refine ⟨ih.adj, ?_, ih.size, ih.ed, fun h => ?_, ih.klen⟩
        · have := ih.len; rw [H1]; omega
        · obtain ⟨⟨x, hx, e⟩, k⟩ := ih.ask h
          exact ⟨⟨x, S7 _ hx, e⟩, k⟩
theorem ran {l : List TOp} {got : List H4} {n : Nat} (hn : 19 ≤ n) (h : ∀ o ∈ l, Af3 n o) : Ran l got 0 n (Q4 l got) := CR6 hn h rfl fun w hw => absurd hw List.not_mem_nil
theorem Ad7 {l : List TOp} (h : AF2 l = true) : ∀ o ∈ l, Af3 36 o := fun o ho => by
  have hg := Cl8 h o ho;unfold BI0 r7 AZ2 within at hg
  simp only [F0, I4] at hg;obtain ⟨⟨⟨⟨⟨a1, a2⟩, a3⟩, a4⟩, a5⟩, a6⟩ := hg;exact ⟨by unfold TOp.size; omega, by omega, by omega⟩
def isTxn (n : Int) : Bool := within n 1 60
def Av3 (x y : J5) : Bool := ((x.Key == y.Key) && (x.Txn != y.Txn)) && (x.Write || y.Write)
def AO4 : List Int → Int → List Int
  | [], n => [n]
  | x :: l, n => if x < n then x :: AO4 l n else if x = n then x :: l else n :: x :: l
def AC2 (l : List J5) (x : J5) : List Int := (l.filter (Av3 x)).foldl (fun a y => AO4 a y.Txn) []
def AI2 : List J5 → J5 → List J5
  | [], x => [x]
  | y :: l, x => if (y.Key == x.Key && y.Txn == x.Txn) = true then ⟨y.Key, y.Txn, y.Write || x.Write⟩ :: l else y :: AI2 l x
def Ao8 (l : List J5) (fixed : List Int) (x : J5) (w : List Int) : Int × List Int :=
  if w.length = 0 then (1, []) else if (w.any fun t => decide (t < x.Txn) || fixed.any fun y => t == y) = true then (2, []) else (3, w)
structure Ba4 (n : Nat) (c : Int) (t : B1) : Prop where
  terms : t.Terms.length = n
  ops : AF2 t.Ops = true ∧ ∀ o ∈ t.Ops, o.Key ∈ AA7
  got : t.Got.length ≤ 8 ∧ ∀ g ∈ t.Got, g.size ≤ 64
  span : t.Begin ≤ c ∧ (t.End = -1 ∨ (0 ≤ t.Begin ∧ t.Begin < t.End ∧ t.End ≤ c))
structure LkOk (n : Nat) (c : Int) (l : B5) : Prop where
  node : 0 ≤ l.Node ∧ l.Node < 3 * (n : Int)
  keys : l.Keys.length ≤ 8 ∧ ∀ k ∈ l.Keys, k.length ≤ 12
  got : l.Got.length ≤ l.Keys.length ∧ ∀ g ∈ l.Got, g.size ≤ 64
  span : l.Begin ≤ c ∧ (l.End = -1 ∨ (0 ≤ l.Begin ∧ l.Begin < l.End ∧ l.End ≤ c))
  time : 0 ≤ l.Time ∧ l.Time ≤ 1000000
def AQ2 (l : List J5) : Prop := l.length ≤ 60 ∧ ∀ x ∈ l, (1 ≤ x.Txn ∧ x.Txn ≤ 1000000) ∧ x.size ≤ 64
structure WI (w : E0) : Prop where
  n : 1 ≤ w.Groups.length ∧ w.Groups.length ≤ 3
  clocks : w.Clocks.length = 3 * w.Groups.length ∧ ∀ c ∈ w.Clocks, -5 ≤ c.Off ∧ c.Off ≤ 5
  cuts : w.Cuts.length + 1 = w.Groups.length ∧ ∀ c ∈ w.Cuts, c.length ≤ 12
  locks : w.Locks.length = w.Groups.length ∧ ∀ l ∈ w.Locks, AQ2 l
  promised : w.Promised.length = w.Groups.length ∧ ∀ p ∈ w.Promised, 0 ≤ p ∧ p ≤ 1000000
  groups : ∀ g ∈ w.Groups, WG g
  txns : w.Txns.length ≤ 6 ∧ ∀ t ∈ w.Txns, Ba4 w.Groups.length w.Count t
  looks : w.Looks.length ≤ 4 ∧ ∀ l ∈ w.Looks, LkOk w.Groups.length w.Count l
  now : 0 ≤ w.Now ∧ w.Now ≤ 100000
  count : 0 ≤ w.Count ∧ w.Count ≤ 1000000
structure WQ (w : E0) : Prop where
  txns : ∀ t ∈ w.Txns, t.Begin < w.Count
  looks : ∀ l ∈ w.Looks, l.Begin < w.Count
structure WS (w v : E0) : Prop where
  cuts : v.Cuts = w.Cuts
  groups : v.Groups.length = w.Groups.length
  txns : v.Txns.length = w.Txns.length
  looks : v.Looks.length = w.Looks.length
  now : v.Now = w.Now
  count : v.Count = w.Count
structure WF (w v : E0) : Prop where
  wi : WI v
  ws : WS w v
  lk : v.Looks = w.Looks
  gr : v.Groups = w.Groups
theorem WF.trans {u v w : E0} (h : WF u v) (k : WF v w) : WF u w := ⟨k.wi, ⟨k.ws.cuts.trans h.ws.cuts, k.ws.groups.trans h.ws.groups, k.ws.txns.trans h.ws.txns, k.ws.looks.trans h.ws.looks, k.ws.now.trans h.ws.now, k.ws.count.trans h.ws.count⟩, k.lk.trans h.lk, k.gr.trans h.gr⟩
theorem WF.refl {w : E0} (h : WI w) : WF w w := ⟨h, ⟨rfl, rfl, rfl, rfl, rfl, rfl⟩, rfl, rfl⟩
theorem WS.refl (w : E0) : WS w w := ⟨rfl, rfl, rfl, rfl, rfl, rfl⟩
theorem WS.trans {u v w : E0} (h : WS u v) (k : WS v w) : WS u w := ⟨k.cuts.trans h.cuts, k.groups.trans h.groups, k.txns.trans h.txns, k.looks.trans h.looks, k.now.trans h.now, k.count.trans h.count⟩
def Y5 (w : E0) (i : Nat) (g : C8) : E0 := { w with Groups := w.Groups.set i g }
def Ac9 (w : E0) (i : Nat) (l : List J5) : E0 := { w with Locks := w.Locks.set i l }
def Ab0 (w : E0) (i : Nat) (p : Int) : E0 := { w with Promised := w.Promised.set i p }
def AH9 (w : E0) (i : Nat) (t : B1) : E0 := { w with Txns := w.Txns.set i t }
def AR6 (w : E0) (i : Nat) (t : B5) : E0 := { w with Looks := w.Looks.set i t }
def Bt8 (w : E0) (i : Nat) (c : u9) : E0 := { w with Clocks := w.Clocks.set i c }
theorem AN8 {α : Type} {l : List α} {i : Nat} {x : α} {P : α → Prop} (h : ∀ y ∈ l, P y) (hx : P x) : ∀ y ∈ l.set i x, P y := fun y hy => by
  rcases List.mem_or_eq_of_mem_set hy with hy | rfl
  · exact h y hy
  · exact hx
theorem AB6 {w : E0} (h : WI w) {i : Nat} {g : C8} (hg : WG g) : WI (Y5 w i g) ∧ WS w (Y5 w i g) := by
  have hl : (w.Groups.set i g).length = w.Groups.length := V4 ..;refine ⟨⟨?_, ?_, ?_, ?_, ?_, AN8 h.groups hg, ?_, ?_, h.now, h.count⟩, ⟨rfl, hl, rfl, rfl, rfl, rfl⟩⟩ <;> unfold Y5 <;> dsimp only <;> rw [hl]
  · exact h.n
  · exact h.clocks
  · exact h.cuts
  · exact h.locks
  · exact h.promised
  · exact h.txns
  · exact h.looks
theorem CR7 {w : E0} (h : WI w) {i : Nat} {l : List J5} (hg : AQ2 l) : WI (Ac9 w i l) ∧ WS w (Ac9 w i l) :=
  ⟨⟨h.n, h.clocks, h.cuts, ⟨(V4 ..).trans h.locks.1, AN8 h.locks.2 hg⟩, h.promised, h.groups, h.txns, h.looks, h.now, h.count⟩, ⟨rfl, rfl, rfl, rfl, rfl, rfl⟩⟩
theorem Cg6 {w : E0} (h : WI w) {i : Nat} {p : Int} (hp : 0 ≤ p ∧ p ≤ 1000000) : WI (Ab0 w i p) ∧ WS w (Ab0 w i p) :=
  ⟨⟨h.n, h.clocks, h.cuts, h.locks, ⟨(V4 ..).trans h.promised.1, AN8 h.promised.2 hp⟩, h.groups, h.txns, h.looks, h.now, h.count⟩, ⟨rfl, rfl, rfl, rfl, rfl, rfl⟩⟩
theorem Au4 {w : E0} (h : WI w) {i : Nat} {t : B1} (ht : Ba4 w.Groups.length w.Count t) : WI (AH9 w i t) ∧ WS w (AH9 w i t) :=
  ⟨⟨h.n, h.clocks, h.cuts, h.locks, h.promised, h.groups, ⟨by show (w.Txns.set i t).length ≤ 6; rw [V4]; exact h.txns.1, AN8 h.txns.2 ht⟩, h.looks, h.now, h.count⟩, ⟨rfl, rfl, V4 .., rfl, rfl, rfl⟩⟩
theorem Bx1 {w : E0} (h : WI w) {i : Nat} {t : B5} (ht : LkOk w.Groups.length w.Count t) : WI (AR6 w i t) ∧ WS w (AR6 w i t) :=
  ⟨⟨h.n, h.clocks, h.cuts, h.locks, h.promised, h.groups, h.txns, ⟨by show (w.Looks.set i t).length ≤ 4; rw [V4]; exact h.looks.1, AN8 h.looks.2 ht⟩, h.now, h.count⟩, ⟨rfl, rfl, rfl, V4 .., rfl, rfl⟩⟩
theorem wi_clock {w : E0} (h : WI w) {i : Nat} {c : u9} (hc : -5 ≤ c.Off ∧ c.Off ≤ 5) : WI (Bt8 w i c) ∧ WS w (Bt8 w i c) :=
  ⟨⟨h.n, ⟨(V4 ..).trans h.clocks.1, AN8 h.clocks.2 hc⟩, h.cuts, h.locks, h.promised, h.groups, h.txns, h.looks, h.now, h.count⟩, ⟨rfl, rfl, rfl, rfl, rfl, rfl⟩⟩
theorem wi_now {w : E0} (h : WI w) {n : Int} (hn : 0 ≤ n ∧ n ≤ 100000) : WI { w with Now := n } := ⟨h.n, h.clocks, h.cuts, h.locks, h.promised, h.groups, h.txns, h.looks, hn, h.count⟩
theorem wi_count {w : E0} (h : WI w) (hc : w.Count < 1000000) : WI { w with Count := w.Count + 1 } ∧ WQ { w with Count := w.Count + 1 } := by
  have h0 := h.count;refine ⟨⟨h.n, h.clocks, h.cuts, h.locks, h.promised, h.groups, ⟨h.txns.1, fun t ht => ?_⟩, ⟨h.looks.1, fun t ht => ?_⟩, h.now, by dsimp only; omega⟩, ⟨fun t ht => ?_, fun t ht => ?_⟩⟩
  · have := h.txns.2 t ht; exact ⟨this.terms, this.ops, this.got, by dsimp only; have := this.span; omega⟩
  · have := h.looks.2 t ht; exact ⟨this.node, this.keys, this.got, by dsimp only; have := this.span; omega, this.time⟩
  · have := (h.txns.2 t ht).span; dsimp only; omega
  · have := (h.looks.2 t ht).span; dsimp only; omega
def AR7 (l : List K1) : List O0 := l.map K1.Rec
def Ba5 (l : List K1) (n : Nat) : H2 := o7 AE0 (AR7 (l.take n))
def Ar1 (g : C8) : F3 := g.Reps.foldl (fun b r => if b.Sure < r.Sure then r else b) (N8 g 0)
def Ag8 (g : C8) : H2 := Ba5 (Ar1 g).Log (Ar1 g).Sure.toNat
def AO5 (g : C8) : Bool := decide (0 ≤ g.Lead) && ((N8 g g.Lead).Log.take (N8 g g.Lead).Sure.toNat).any fun e => e.Term == g.Term
def Y9 (g : C8) : H2 := Ba5 (N8 g g.Lead).Log (N8 g g.Lead).Sure.toNat
def W0 (g : C8) : H2 := Ba5 (N8 g g.Lead).Log (N8 g g.Lead).Log.length
theorem Ct7 {r : F3} {t : Int} (h : GR r t) (n : Nat) : (∀ x ∈ AR7 (r.Log.take n), U7 x = true) ∧ (AR7 (r.Log.take n)).length ≤ 60 := by
  refine ⟨fun x hx => ?_, ?_⟩
  · obtain ⟨e, he, rfl⟩ := n8.1 hx
    exact (h.ents e (An6 he)).2.2
  · unfold AR7
    rw [A6];exact L4 (List.length_take_le' _ _) h.len
theorem Am9 {r : F3} {t : Int} (h : GR r t) (n : Nat) : GS (Ba5 r.Log n) := Cg0 Bc7 (Ct7 h n).1
theorem CR8 : ∀ {l : List F3} {b : F3}, l.foldl (fun b r => if b.Sure < r.Sure then r else b) b = b ∨ l.foldl (fun b r => if b.Sure < r.Sure then r else b) b ∈ l
  | [], b => .inl rfl
  | r :: l, b => by
    rw [List.foldl_cons];rcases CR8 (l := l) (b := if b.Sure < r.Sure then r else b) with h | h
    · rw [h]
      split
      · exact .inr W6
      · exact .inl rfl
    · exact .inr (S7 _ h)
theorem Cg7 {g : C8} (h : GG g) : Ar1 g ∈ g.Reps := by
  rcases CR8 (l := g.Reps) (b := N8 g 0) with e | e
  · unfold Ar1; rw [e]
    exact AF0 ⟨Int.le_refl 0, by rcases h.many with k | k <;> omega⟩
  · exact e
theorem CD0 {g : C8} (h : GG g) : GS (Ag8 g) := Am9 (h.reps _ (Cg7 h)) _
theorem Az1 {g : C8} (h : GG g) (hl : 0 ≤ g.Lead) : 0 ≤ g.Lead ∧ g.Lead < g.Reps.length := by
  rcases h.lead with e | ⟨a, b, _⟩
  · omega
  · exact ⟨a, b⟩
theorem Ah5 {g : C8} (h : GG g) (hl : 0 ≤ g.Lead) : GS (Y9 g) := Am9 (h.reps _ (AF0 (Az1 h hl))) _
theorem AM0 {g : C8} (h : GG g) (hl : 0 ≤ g.Lead) : GS (W0 g) := Am9 (h.reps _ (AF0 (Az1 h hl))) _
theorem AJ3 {g : C8} (h : AO5 g = true) : 0 ≤ g.Lead := by
  unfold AO5 at h;rw [F0, I4] at h;exact h.1
structure StK (s : H2) : Prop where
  cells : ∀ c ∈ s.Cells, c.Key ∈ AA7
  held : ∀ h ∈ s.Held, ∀ w ∈ h.Writes, w.Key ∈ AA7
def lookW (l : List A4) (k : Str) : Option A4 := l.find? fun w => w.Key == k
theorem BP7 {l : List A4} {k : Str} {w : A4} (h : lookW l k = some w) : w ∈ l ∧ w.Key = k := by
  unfold lookW at h;exact ⟨An5 h, by simpa using List.find?_some h⟩
theorem Bp0 {l : List A4} {k : Str} (h : lookW l k = none) : ∀ w ∈ l, w.Key ≠ k := fun w hw e => by
  have := List.find?_eq_none.1 h w hw;simp [e] at this
theorem Cg8 {x y : A4} : ∀ {l : List A4}, l.Pairwise (fun a b => T1 a b = true) → x ∈ l → y ∈ l → x.Key = y.Key → x = y
  | [], _, h, _, _ => by cases h
  | z :: l, hp, hx, hy, e => by
    obtain ⟨h1, h2⟩ := AC7.1 hp;rcases O5.1 hx with ex | hx'
    · rcases O5.1 hy with ey | hy'
      · rw [ex, ey]
      · exfalso; have := h1 y hy'; unfold T1 at this; rw [← ex, e, K7] at this; cases this
    · rcases O5.1 hy with ey | hy'
      · exfalso; have := h1 x hx'; unfold T1 at this; rw [← ey, e, K7] at this; cases this
      · exact Cg8 h2 hx' hy' e
theorem Ct8 {l : List A4} (ha : adj T1 l = true) {w : A4} (hw : w ∈ l) : lookW l w.Key = some w := by
  cases h : lookW l w.Key with
  | none => exact absurd rfl (Bp0 h w hw)
  | some x =>
    obtain ⟨hx, hk⟩ := BP7 h;have hp := (AW5 AD8).1 ha;by_cases e : x = w
    · rw [e]
    · exact absurd (Cg8 hp hx hw hk) e
def a7 (rows ws : List A4) : List A4 := Ag6 (Aq8 rows ws)
theorem BP8 {rows ws : List A4} (h : adj T1 rows = true) : adj T1 (a7 rows ws) = true := Ck3 _ (CQ3 h)
def Bt9 (l : List A4) : Prop := adj T1 l = true ∧ (∀ w ∈ l, w.Gone = false ∧ AM8 w = true)
theorem putD_ok {rows ws : List A4} (h : Bt9 rows) (hw : ∀ w ∈ ws, AM8 w = true) : Bt9 (a7 rows ws) := by
  refine ⟨BP8 h.1, fun w hm => ?_⟩;obtain ⟨h1, h2⟩ := List.mem_filter.1 hm;refine ⟨by simpa using h2, ?_⟩;rcases BO8 h1 with h3 | h3
  · exact hw w h3
  · exact (h.2 w h3).2
def BF7 (g : H4) : Bool := r7 g.Key && AI7 g.Val (!g.There)
def AX9 (p : List H4) : List H4 → Bool
  | [] => true
  | g :: l => (BF7 g && !(p.any fun h => h.Key == g.Key)) && AX9 (p ++ [g]) l
def AY5 (l : List H4) : Bool := AX9 [] l && decide ((l.length : Int) ≤ 8)
def r3 (d : B4) : Bool := (((((isTxn d.Txn && within d.Begin 0 1000000) && (d.End == -1 || within d.End (d.Begin + 1) 1000000)) && (!d.Look || (d.Yes && ((d.Writes.length : Int) == 0)))) && AC1 d.Time) && AY5 d.Got) && AE4 d.Writes
def X7 (h : List B4) : Bool := decide ((h.length : Int) ≤ 10) && h.all r3
def AF8 (a b : B4) : Bool := (a.End != -1) && decide (a.End < b.Begin)
def zDeed : B4 := ⟨0, 0, 0, false, false, 0, [], []⟩
def G7 (h : List B4) (n : Int) : B4 := (h[n.toNat]?).getD zDeed
def At3 (m : Int) (p : List Int) : List Int → Bool
  | [] => true
  | n :: o => (within n 0 (m - 1) && !(p.any fun x => n == x)) && At3 m (p ++ [n]) o
def AD5 (h : List B4) (o : List Int) : Bool := At3 (h.length : Int) [] o && X7 h
def Aa0 (rows : List A4) (k : Str) : H4 := match lookW rows k with
  | some w => ⟨k, w.Val, true⟩
  | none => ⟨k, [], false⟩
def j3 (rows : List A4) (d : B4) : Bool := d.Got.all fun g => decide (Aa0 rows g.Key = g)
def AT2 (h : List B4) : List Int → List A4 → Bool → Option (List A4 × Bool)
  | [], rows, r => some (rows, r)
  | n :: o, rows, r =>
    if (G7 h n).Yes = true then
      (if ((a7 rows (G7 h n).Writes).length : Int) ≤ 24 then AT2 h o (a7 rows (G7 h n).Writes) (r && j3 rows (G7 h n)) else none)
    else AT2 h o rows r
def AJ7 (h : List B4) (o : List Int) : List A4 × Bool × Bool := if AD5 h o = true then (match AT2 h o [] true with
  | some (rows, r) => (rows, r, true)
  | none => ([], false, false)) else ([], false, false)
def AL0 (h : List B4) : List Int → Bool
  | [] => true
  | n :: o => (o.all fun m => !AF8 (G7 h m) (G7 h n)) && AL0 h o
def AV0 (h : List B4) (o : List Int) : Bool × Bool := if AD5 h o = true then (AL0 h o, true) else (false, false)
def I1 (h : List B4) : List Int := (List.range h.length).filterMap fun i : Nat => if (G7 h (Int.ofNat i)).Yes = true then some (Int.ofNat i) else none
theorem CD1 {m : Int} : ∀ {o p : List Int}, At3 m p o = true ↔ (∀ n ∈ o, 0 ≤ n ∧ n < m ∧ n ∉ p) ∧ o.Nodup
  | [], p => by simp [At3]
  | n :: o, p => by
    unfold At3 within
    rw [F0, CD1, List.nodup_cons];simp only [F0, I4, l7, List.any_eq_false, e8, Z7, V8, not_or];constructor
    · rintro ⟨⟨⟨h1, h2⟩, h3⟩, h4, h5⟩
      refine ⟨fun x hx => ?_, fun hn => (h4 n hn).2.2.2 rfl, h5⟩;rcases O5.1 hx with rfl | hx
      · exact ⟨h1, by omega, fun hp => h3 _ hp rfl⟩
      · have := h4 x hx; exact ⟨this.1, this.2.1, this.2.2.1⟩
    · rintro ⟨h1, h2, h3⟩
      have h0 := h1 n W6;refine ⟨⟨⟨h0.1, by omega⟩, fun x hx e => h0.2.2 (e ▸ hx)⟩, fun x hx => ?_, h3⟩;have := h1 x (S7 _ hx);exact ⟨this.1, this.2.1, this.2.2, fun e => h2 (e ▸ hx)⟩
theorem Ag3 {h : List B4} {o : List Int} : AD5 h o = true ↔ (∀ n ∈ o, 0 ≤ n ∧ n < (h.length : Int)) ∧ o.Nodup ∧ X7 h = true := by
  unfold AD5;rw [F0, CD1];constructor
  · rintro ⟨⟨a, b⟩, c⟩; exact ⟨fun n hn => ⟨(a n hn).1, (a n hn).2.1⟩, b, c⟩
  · rintro ⟨a, b, c⟩; exact ⟨⟨fun n hn => ⟨(a n hn).1, (a n hn).2, List.not_mem_nil⟩, b⟩, c⟩
theorem An0 {h : List B4} {n : Int} (hn : 0 ≤ n ∧ n < (h.length : Int)) : G7 h n ∈ h ∧ h[n.toNat]? = some (G7 h n) := by
  unfold G7;have : n.toNat < h.length := by omega
  rw [O1 this];exact ⟨List.getElem_mem _, rfl⟩
theorem AV4 {h : List B4} (g : X7 h = true) {d : B4} (hd : d ∈ h) : r3 d = true := by
  unfold X7 at g;rw [F0, l8] at g;exact g.2 d hd
theorem AY8 {d : B4} (h : r3 d = true) : AG7 d.Writes = true ∧ (∀ w ∈ d.Writes, AM8 w = true) ∧ adj T1 d.Writes = true := by
  unfold r3 at h;simp only [F0] at h;have := h.2;rw [Ah4] at this;refine ⟨this, ?_⟩;unfold AG7 at this;simp only [F0, l8] at this;exact ⟨this.1.1, this.1.2⟩
def Be0 (h : List B4) : Prop := ∀ d ∈ h, ∀ w ∈ d.Writes, w.Key ∈ AA7
def Af4 (l : List A4) : Prop := Bt9 l ∧ ∀ w ∈ l, w.Key ∈ AA7
theorem Aq3 {l : List A4} (h : adj T1 l = true) (hk : ∀ w ∈ l, w.Key ∈ AA7) : l.length ≤ 8 := by
  have h1 : (l.map A4.Key).Nodup := by
    have hp := (AW5 AD8).1 h;rw [List.nodup_iff_pairwise_ne, List.pairwise_map];exact hp.imp fun {a b} hab e => by unfold T1 at hab; rw [e, K7] at hab; cases hab
  have := Bk1 h1 (b := AA7) fun x hx => by
    obtain ⟨w, hw, rfl⟩ := n8.1 hx;exact hk w hw
  rw [A6] at this;exact this
theorem Au5 {rows ws : List A4} (h : Af4 rows) (hw : ∀ w ∈ ws, AM8 w = true) (hk : ∀ w ∈ ws, w.Key ∈ AA7) : Af4 (a7 rows ws) ∧ (a7 rows ws).length ≤ 8 := by
  have h1 := putD_ok h.1 hw;have h2 : ∀ w ∈ a7 rows ws, w.Key ∈ AA7 := fun w hm => by
    rcases BO8 (List.mem_filter.1 hm).1 with h3 | h3
    · exact hk w h3
    · exact h.2 w h3
  exact ⟨⟨h1, h2⟩, Aq3 h1.1 h2⟩
theorem Au6 : Af4 [] := ⟨⟨rfl, fun w hw => by cases hw⟩, fun w hw => by cases hw⟩
theorem Cm0 {h : List B4} {n : Int} {o : List Int} {rows : List A4} {r : Bool} : AT2 h (n :: o) rows r = if (G7 h n).Yes = true then (if ((a7 rows (G7 h n).Writes).length : Int) ≤ 24 then AT2 h o (a7 rows (G7 h n).Writes) (r && j3 rows (G7 h n)) else none) else AT2 h o rows r := rfl
theorem Bc8 {h : List B4} {n : Int} : n ∈ I1 h ↔ (0 ≤ n ∧ n < (h.length : Int)) ∧ (G7 h n).Yes = true := by
  unfold I1;rw [List.mem_filterMap];constructor
  · rintro ⟨i, hi, e⟩
    rw [List.mem_range] at hi;split at e
    · injection e with e; subst e; exact ⟨⟨Int.natCast_nonneg i, show (i : Int) < _ by omega⟩, ‹_›⟩
    · cases e
  · rintro ⟨h1, h2⟩
    refine ⟨n.toNat, List.mem_range.2 qz8, ?_⟩;rw [show Int.ofNat n.toNat = n from Int.toNat_of_nonneg h1.1, D1 h2]
theorem Bx2 (h : List B4) : (I1 h).length ≤ h.length := by
  unfold I1;exact L4 (List.length_filterMap_le _ _) (by rw [List.length_range]; exact L5 _)
end Go.M
namespace Go.AV
open Go.RowKit (Below)
section
variable {P : Program} {G : Nat → Prop} {n : Nat} {own : List Own}
end
def BL2 (es : Array MapEntry) (clock : Nat) (k v : Value) : Option (Nat × Value) → Obj
  | some (i, _) => .map (es.modify i fun e => { e with key := k, val := v }) clock
  | none => .map (es.push { key := k, val := v, born := clock }) (clock + 1)
def Bz8 (z : Value) : Option (Nat × Value) → Value
  | some (_, v) => v
  | none => z
def BC5 (w : World) (b : Nat) (x : Obj) : World := { w with heap := w.heap.setIfInBounds b x }
def AV.nxt (c : Bool) (e : MapEntry) : AV := AV.is (bif c then .tuple #[.bool true, e.key, e.val] else .tuple #[.bool false])
section
variable {P : Program} {G : Nat → Prop} {n : Nat} {own : List Own} {o : Oper}
theorem CR9 {w0 : World} {R0 R : G4} {w : World} {x : Obj} (D : Obj → Prop) (h : S6 G w0 R0 own R w) (hd : D x) :
    S6 G w0 R0 (.obj w.heap.size D :: own) R (w.alloc x) where
  os := h.os
  tape := h.tape
  output := h.output
  size := by simp; exact Nat.le_succ_of_le h.size
  block k hk1 hk2 := (Below.heap_alloc w _ k (Nat.lt_of_lt_of_le hk1 h.size)).trans (h.block k hk1 hk2)
  rle b o e := by
    have := h.rle b o e;exact (Below.heap_alloc w _ b (AT0.1 this).1).trans this
  rold := h.rold
  owned o ho := by
    rcases O5.1 ho with rfl | ho
    · refine ⟨?_, x, heap_alloc_new w _, hd⟩
      cases hr : R w.heap.size with
      | none => rfl
      | some o => have := (AT0.1 (h.rle _ _ hr)).1; omega
    · exact Own.ok_keep (h.owned o ho) (J1.refl _) fun b hb => by
        obtain ⟨k1, k2⟩ := Own.ok_blk (h.owned o ho) hb;exact ⟨Below.heap_alloc w _ b k2, k1⟩
  fresh o ho b hb := by
    rcases O5.1 ho with rfl | ho
    · simp [Own.blk] at hb; subst hb; exact .inl h.size
    · exact h.fresh o ho b hb
  sep := by
    simp only [AM3, Own.blk];refine List.nodup_cons.2 ⟨fun hm => ?_, h.sep⟩;obtain ⟨o, ho, hb⟩ := List.mem_filterMap.1 hm;have := (Own.ok_blk (h.owned o ho) hb).2;omega
theorem BJ6 {c : Code} {Q : Exit → G5 → Prop} {env : List (Nat × AV)} (i : Nat) {b : Nat} {D : Obj → Prop} (hi : own[i]? = some (.obj b D)) (k : ∀ x, D x → AWP P G n c Q ⟨own.set i (.obj b (· = x)), env⟩) : AWP P G n c Q ⟨own, env⟩ := fun w0 R0 R a w ⟨h1, h2, h3⟩ => by
 obtain ⟨hR, x, hx, hd⟩ := h1.owned _ (C3 hi);refine k x hd w0 R0 R a w ⟨?_, h2, h3⟩;exact AL8 h1 hi rfl rfl ⟨hR, x, hx, rfl⟩ ⟨rfl, rfl, rfl, L5 _, fun k _ _ => rfl⟩
theorem Au7 {env : List (Nat × AV)} (i : Nat) {b : Nat} {D : Obj → Prop} (D' : Obj → Prop) (hi : own[i]? = some (.obj b D)) (h : ∀ x, D x → D' x) : Le G n ⟨own, env⟩ ⟨own.set i (.obj b D'), env⟩ := fun w0 R0 R a w ⟨h1, h2, h3⟩ => by
  obtain ⟨hR, x, hx, hd⟩ := h1.owned _ (C3 hi);exact ⟨R, J1.refl _, AL8 h1 hi rfl rfl ⟨hR, x, hx, h x hd⟩ ⟨rfl, rfl, rfl, L5 _, fun k _ _ => rfl⟩, h2, h3⟩
theorem Bk6 {ops : Array Oper} {rest : List Oper} {env : List (Nat × AV)} {K : G5 → Prop} {d : Nat} {t : TypeId} (hg : o.guard = none) (ho : o.op = .makeMap t none) (hd : o.dst = some d) (hn : Nat.blt d n = true)
    (k : ∀ b, O9 P G n ops rest ⟨.obj b (· = .map #[] 0) :: own, (d, AV.is (.map (some b))) :: env⟩ K) : O9 P G n ops (o :: rest) ⟨own, env⟩ K :=
  o4 hg fun w0 R0 R a w ⟨h1, h2, h3, h4⟩ => by
    have hrun : (execOp a.eval o).run P w = .ok (.value (.map (some w.heap.size))) (w.alloc (.map #[] 0)) := by
      simp only [execOp, ho, Option.map_none, Instr.makeMap, Sem.run_bind, Sem.run_pure, Result.andThen_ok, run_newObj, World.alloc_eq]
    unfold Oper.wp;rw [hrun, Oper.upon_value, hd];exact ⟨_, R, k w.heap.size, J1.refl _, CR9 _ h1 rfl, AC5 h2 (J1.refl _) AV7 rfl, by rw [size_put]; exact h3, by rw [V6]; exact h4⟩
theorem BW9 (w : World) (g : Nat) (x : Obj) : w.grownBy (BC5 w g x) (some g) :=
  ⟨rfl, rfl, rfl, by simp [BC5], fun k hk hne => by
    simp only [BC5];rw [Array.getElem?_setIfInBounds_ne (fun e => hne (by rw [e]))]⟩
theorem Bg1 {P : Program} {w : World} {kt : TypeId} {kd : TypeDesc} {k : Value} {es : List MapEntry} {r : Option (Nat × Value)} (ht : P.underlying kt = some kd) (h : Instr.findNow kd k es 0 = some r) : (Instr.findKey kt k es).run P w = .ok r w := by
  simp only [Instr.findKey, Sem.run_bind, run_underlying ht, Result.andThen_ok, h, Sem.run_pure]
def CY5 (kd : TypeDesc) : Prop := kd = .string ∨ ∃ k, kd = .int k
theorem BX0 {P : Program} {w : World} {e : Bool} {m : Nat} {kt : TypeId} {kd : TypeDesc} {k : Value} (ht : P.underlying kt = some kd) (hk : CY5 kd) : (Instr.checkKey e (m + 1) kt k).run P w = .ok () w := by
  rcases hk with rfl | ⟨j, rfl⟩ <;> simp only [Instr.checkKey, Sem.run_bind, run_underlying ht, Result.andThen_ok, Sem.run_pure]
theorem Ct9 {P : Program} {w : World} {a b : Value} (h : Instr.sameBits 10000 a b = true) : (Instr.keyThatStays a b).run P w = .ok b w := by
  simp only [Instr.keyThatStays, h, if_true, Sem.run_pure]
theorem BX1 {ops : Array Oper} {rest : List Oper} {env : List (Nat × AV)} {K : G5 → Prop} {t kt et : TypeId} {kd : TypeDesc} {p q v : Operand} {b clock : Nat} {es : Array MapEntry} {x y : Value} {r : Option (Nat × Value)} (D' : Obj → Prop) (i : Nat) (hg : o.guard = none) (ho : o.op = .mapUpdate t p q v ∨ o.op = .insert t p q v) (hd : o.dst = none)
    (ht : P.underlying t = some (.map kt et)) (hkt : P.underlying kt = some kd) (hkd : CY5 kd) (hp : Ev (M0 · env) p (AV.is (.map (some b)))) (hq : Ev (M0 · env) q (AV.is x)) (hv : Ev (M0 · env) v (AV.is y)) (hi : own[i]? = some (.obj b (· = .map es clock)))
    (hf : Instr.findNow kd x es.toList 0 = some r) (hs : ∀ j u, r = some (j, u) → Instr.sameBits 10000 (((es[j]?).map (·.key)).getD x) x = true) (hD : D' (BL2 es clock x y r)) (k : O9 P G n ops rest ⟨own.set i (.obj b D'), env⟩ K) : O9 P G n ops (o :: rest) ⟨own, env⟩ K :=
  o4 hg fun w0 R0 R a w ⟨h1, h2, h3, h4⟩ => by
    have e1 : a.eval p = .map (some b) := AE1 (s := ⟨own, env⟩) (o := o) hp h2;have e2 : a.eval q = x := AE1 (s := ⟨own, env⟩) (o := o) hq h2;have e3 : a.eval v = y := AE1 (s := ⟨own, env⟩) (o := o) hv h2;obtain ⟨hR, z, hz, rfl⟩ := h1.owned _ (C3 hi);have hrun0 : (Instr.mapUpdate t (.map (some b)) x y).run P w = .ok () (BC5 w b (BL2 es clock x y r)) := by
      simp only [Instr.mapUpdate, Sem.run_bind, run_underlying ht, Result.andThen_ok, MapKept.run_getObj_map hz, BX0 hkt hkd, Bg1 hkt hf]
      cases r with
      | none => exact MapKept.run_setObj_map _ hz
      | some r =>
        obtain ⟨j, u⟩ := r;simp only [Sem.run_bind, Ct9 (hs j u rfl), Result.andThen_ok];exact MapKept.run_setObj_map _ hz
    have hrun : (execOp a.eval o).run P w = .ok .skip (BC5 w b (BL2 es clock x y r)) := by
      rcases ho with ho | ho <;> simp only [execOp, ho, e1, e2, e3, hrun0, Sem.run_bind, Sem.run_pure, Result.andThen_ok]
    unfold Oper.wp;rw [hrun, Oper.upon_skip, hd];have hlt := (AT0.1 hz).1;exact ⟨_, R, k, J1.refl _, AL8 h1 hi rfl rfl ⟨hR, _, by simp [BC5, hlt], hD⟩ (BW9 w b _), h2, h3, h4⟩
theorem w_look {E : N1} {t kt et : TypeId} {kd : TypeDesc} {p q : Operand} {b clock : Nat} {es : Array MapEntry} {x z u : Value} {r : Option (Nat × Value)} (i : Nat) (ho : o.op = .lookup t p q false)
    (ht : P.underlying t = some (.map kt et)) (hkt : P.underlying kt = some kd) (hkd : CY5 kd) (hz : ∀ w, (zeroValue et).run P w = .ok z w) (hp : Ev E p (AV.is (.map (some b)))) (hq : Ev E q (AV.is x)) (hi : own[i]? = some (.obj b (· = .map es clock)))
    (hf : Instr.findNow kd x es.toList 0 = some r) (hu : Bz8 z r = u) : OpW P G n own o E (AV.is u) := AG3 fun w0 R0 R a w hc he => by
  have e1 : a.eval p = .map (some b) := G0 hp M8 he;have e2 : a.eval q = x := G0 hq M8 he;obtain ⟨hR, y, hy, rfl⟩ := hc.owned _ (C3 hi);refine ⟨u, ?_, rfl⟩;have hrun : (Instr.lookup t (.map (some b)) x false).run P w = .ok u w := by
    simp only [Instr.lookup, Sem.run_bind, run_underlying ht, Result.andThen_ok, MapKept.run_getObj_map hy, Sem.run_pure, BX0 hkt hkd, Bg1 hkt hf]
    cases r with
    | none => simp only [Sem.run_bind, hz, Result.andThen_ok, Sem.run_pure]; rw [← hu]; rfl
    | some r => obtain ⟨j, v⟩ := r; simp only [Sem.run_pure, Result.andThen_ok]; rw [← hu]; rfl
  simp only [execOp, ho, e1, e2, hrun, Sem.run_bind, Sem.run_pure, Result.andThen_ok]
theorem CD2 {ops : Array Oper} {rest : List Oper} {env : List (Nat × AV)} {K : G5 → Prop} {d : Nat} {t kt et : TypeId} {p : Operand} {b clock : Nat} {es : Array MapEntry} (i : Nat) (hg : o.guard = none) (ho : o.op = .range t p) (hd : o.dst = some d) (hn : Nat.blt d n = true)
    (ht : P.underlying t = some (.map kt et)) (hp : Ev (M0 · env) p (AV.is (.map (some b)))) (hi : own[i]? = some (.obj b (· = .map es clock)))
    (k : ∀ it, O9 P G n ops rest ⟨.obj it (· = .mapIter (some b) clock #[] clock) :: own, (d, AV.ptr it 0) :: env⟩ K) : O9 P G n ops (o :: rest) ⟨own, env⟩ K :=
  o4 hg fun w0 R0 R a w ⟨h1, h2, h3, h4⟩ => by
    have e1 : a.eval p = .map (some b) := AE1 (s := ⟨own, env⟩) (o := o) hp h2;obtain ⟨hR, z, hz, rfl⟩ := h1.owned _ (C3 hi);have hrun : (execOp a.eval o).run P w = .ok (.value (.pointer (some ⟨w.heap.size, 0, none⟩))) (w.alloc (.mapIter (some b) clock #[] clock)) := by
      simp only [execOp, ho, e1, run_range_map w t kt et b es clock ht hz, Sem.run_bind, Sem.run_pure, Result.andThen_ok]
    unfold Oper.wp;rw [hrun, Oper.upon_value, hd];exact ⟨_, R, k w.heap.size, J1.refl _, CR9 _ h1 rfl, AC5 h2 (J1.refl _) AV7 rfl, by rw [size_put]; exact h3, by rw [V6]; exact h4⟩
theorem BE6 {w : World} {r : Nat} {m : Option Nat} {a b : Nat} {s : Array Nat} (h : w.heap[r]? = some (.mapIter m a s b)) : (getObj r).run P w = .ok (.mapIter m a s b) w := by simp [getObj, Sem.run, h]
theorem Bp1 {w : World} {r : Nat} {m : Option Nat} {a b : Nat} {s : Array Nat} (x : Obj) (h : w.heap[r]? = some (.mapIter m a s b)) : (setObj r x).run P w = .ok () (BC5 w r x) := by simp [setObj, Sem.run, h, BC5]
theorem Cu0 {w : World} {ty : TypeId} {it b since c0 clock : Nat} {seen : Array Nat} {es : Array MapEntry} (hit : w.heap[it]? = some (.mapIter (some b) since seen c0)) (hb : w.heap[b]? = some (.map es clock)) (hold : ∀ x ∈ es.toList, x.born < since) (hsc : since ≤ c0) :
    ∃ (c : Bool) (e : MapEntry) (w1 : World), (c = true → e ∈ (leftOf es seen).toList) ∧ (c = false → (leftOf es seen).size = 0) ∧ w1.heap = w.heap ∧ w1.os = w.os ∧ w1.tape = w.tape ∧ w1.output = w.output ∧
      (Instr.next (.pointer (some ⟨it, 0, none⟩)) false ty).run P w = .ok (bif c then .tuple #[.bool true, e.key, e.val] else .tuple #[.bool false]) (bif c then BC5 w1 it (.mapIter (some b) since (seen.push e.born) clock) else w) := by
  simp only [Instr.next, Sem.run_bind, BE6 hit, MapKept.run_getObj_map hb, Result.andThen_ok, next_test_false seen es since c0 hold hsc, Bool.false_eq_true, if_false];have hL : (es.filter fun e => !seen.contains e.born) = leftOf es seen := rfl;rw [hL];have hmem : ∀ x ∈ (leftOf es seen).toList, x.born < since := fun x hx => hold x (mem_left hx).1;generalize leftOf es seen = L at hmem ⊢
  have e1 : L.filter (fun x => decide (x.born < since)) = L := Array.filter_eq_self.2 (fun x hx => by simpa using hmem x AS0);have e2 : L.filter (fun x => decide (x.born ≥ since)) = #[] := by
    rw [Array.filter_eq_empty_iff];intro x hx;have := hmem x AS0;simp;omega
  simp only [e1, e2, Array.append_empty];by_cases h0 : L.size = 0
  · have : L = #[] := Array.eq_empty_of_size_eq_zero h0
    subst this;exact ⟨false, default, w, fun h => (by cases h), fun _ => rfl, rfl, rfl, rfl, rfl, by simp [choose, Sem.run, Question.forced]⟩
  · have hne : L.isEmpty = false := by simp [Array.isEmpty, h0]
    simp only [hne, Bool.false_eq_true, if_false, Array.empty_append, Array.size_map];have hch : ∃ (j : Nat) (w1 : World), j < L.size ∧ w1.heap = w.heap ∧ w1.os = w.os ∧ w1.tape = w.tape ∧ w1.output = w.output ∧ (choose (Question.mapNext L.size)).run P w = .ok j w1 := by
      by_cases hf : L.size ≤ 1
      · exact ⟨0, w, by omega, rfl, rfl, rfl, rfl, by simp [choose, Sem.run, Question.forced, hf]⟩
      · exact ⟨_, w.drew, Nat.mod_lt _ qz8, rfl, rfl, rfl, rfl, by
          simp only [choose, Sem.run, Question.forced, I4, hf, if_false, Question.cut];rfl⟩
    obtain ⟨j, w1, hj, q1, q2, q3, q4, hrun⟩ := hch;refine ⟨true, L[j], w1, fun _ => by simp, fun h => (by cases h), q1, q2, q3, q4, ?_⟩;have hit1 : w1.heap[it]? = some (.mapIter (some b) since seen c0) := by rw [q1]; exact hit
    simp only [hrun, Array.getElem?_map, Array.getElem?_eq_getElem hj, AB2, Sem.run_bind, Bp1 _ hit1, Result.andThen_ok, Sem.run_pure, cond_true]
theorem CS0 {ops : Array Oper} {rest : List Oper} {env : List (Nat × AV)} {K : G5 → Prop} {d it b since c0 clock : Nat} {seen : Array Nat} {es : Array MapEntry} {p : Operand} (i j : Nat) (hg : o.guard = none) (ho : o.op = .next p false) (hd : o.dst = some d) (hn : Nat.blt d n = true)
    (hp : Ev (M0 · env) p (AV.ptr it 0)) (hi : own[i]? = some (.obj it (· = .mapIter (some b) since seen c0))) (hj : own[j]? = some (.obj b (· = .map es clock))) (hold : ∀ x ∈ es.toList, x.born < since) (hsc : since ≤ c0)
    (k : ∀ (c : Bool) (e : MapEntry), (c = true → e ∈ (leftOf es seen).toList) → (c = false → (leftOf es seen).size = 0) → O9 P G n ops rest ⟨own.set i (.obj it (· = .mapIter (some b) since (bif c then seen.push e.born else seen) (bif c then clock else c0))), (d, AV.nxt c e) :: env⟩ K) : O9 P G n ops (o :: rest) ⟨own, env⟩ K :=
  o4 hg fun w0 R0 R a w ⟨h1, h2, h3, h4⟩ => by
    have e1 : a.eval p = .pointer (some ⟨it, 0, none⟩) := AE1 (s := ⟨own, env⟩) (o := o) hp h2;obtain ⟨hR, z, hz, rfl⟩ := h1.owned _ (C3 hi);obtain ⟨hR2, z2, hz2, rfl⟩ := h1.owned _ (C3 hj);obtain ⟨c, e, w1, k1, k2, q1, q2, q3, q4, hnx⟩ := Cu0 (P := P) (ty := o.type) hz hz2 hold hsc;have hrun : (execOp a.eval o).run P w = .ok (.value (bif c then .tuple #[.bool true, e.key, e.val] else .tuple #[.bool false])) (bif c then BC5 w1 it (.mapIter (some b) since (seen.push e.born) clock) else w) := by
      simp only [execOp, ho, e1, hnx, Sem.run_bind, Sem.run_pure, Result.andThen_ok]
    unfold Oper.wp;rw [hrun, Oper.upon_value, hd];refine ⟨_, R, k c e k1 k2, J1.refl _, ?_, AC5 h2 (J1.refl _) AV7 rfl, by rw [size_put]; exact h3, by rw [V6]; exact h4⟩;have hlt := (AT0.1 hz).1
    cases c with
    | false => exact AL8 h1 hi rfl rfl ⟨hR, _, hz, rfl⟩ ⟨rfl, rfl, rfl, L5 _, fun k _ _ => rfl⟩
    | true =>
      have hg2 := BW9 w1 it (.mapIter (some b) since (seen.push e.born) clock);exact AL8 h1 hi rfl rfl ⟨hR, _, by simp only [cond_true, BC5, q1]; simp [hlt], rfl⟩ ⟨hg2.os.trans q2, hg2.tape.trans q3, hg2.output.trans q4, by rw [← q1]; exact hg2.size, fun k hk hne => by rw [← q1] at hk ⊢; exact hg2.block k hk hne⟩
theorem w_nxt {E : N1} {p : Operand} {c : Bool} {e : MapEntry} (ho : o.op = .extract p 0) (hp : Ev E p (AV.nxt c e)) : OpW P G n own o E (AV.bool c) := N0 fun R a w hr he => by
  have h1 : a.eval p = _ := G0 hp M8 he;refine ⟨.bool c, ?_, rfl⟩;simp only [execOp, ho, h1]
  cases c <;> rfl
theorem Cg9 {E : N1} {p : Operand} {it b since clock : Nat} {seen : Array Nat} {es : Array MapEntry} {e : MapEntry} (i j : Nat) (ho : o.op = .entry p) (hp : Ev E p (AV.ptr it 0)) (hi : own[i]? = some (.obj it (· = .mapIter (some b) since (seen.push e.born) clock))) (hj : own[j]? = some (.obj b (· = .map es clock)))
    (he : e ∈ es.toList) (hn : (es.toList.map (·.born)).Nodup) : OpW P G n own o E (AV.tup [AV.is e.key, AV.is e.val]) := AG3 fun w0 R0 R a w hc hev => by
  have h1 : a.eval p = .pointer (some ⟨it, 0, none⟩) := G0 hp M8 hev;obtain ⟨hR, z, hz, rfl⟩ := hc.owned _ (C3 hi);obtain ⟨hR2, z2, hz2, rfl⟩ := hc.owned _ (C3 hj);have hf : es.find? (·.born == e.born) = some e := by rw [← Array.find?_toList]; exact find_born e es.toList hn he
  have hrun : (Instr.entry (.pointer (some ⟨it, 0, none⟩))).run P w = .ok (.tuple #[e.key, e.val]) w := by
    simp only [Instr.entry, Sem.run_bind, BE6 hz, MapKept.run_getObj_map hz2, Result.andThen_ok, Array.back?_push, bne_self_eq_false, Bool.false_eq_true, if_false, hf, Sem.run_pure]
  exact ⟨_, by simp only [execOp, ho, h1, hrun, Sem.run_bind, Sem.run_pure, Result.andThen_ok], [e.key, e.val], rfl, rfl, fun i v x hv hx => by
    match i, hv, hx with
    | 0, hv, hx => simp at hv hx; subst hv; subst hx; rfl
    | 1, hv, hx => simp at hv hx; subst hv; subst hx; rfl
    | i + 2, hv, hx => simp at hv⟩
end
def AO3 (s : List UInt8) : Value := .string ⟨s.toArray⟩
def W1 (n : Int) : Value := .int .i64 n
theorem CS1 {k : List UInt8} : ∀ {es : List MapEntry} (j : Nat), (∀ e ∈ es, ∃ s, e.key = AO3 s) →
    (∃ i e, es[i]? = some e ∧ e.key = AO3 k ∧ Instr.findNow .string (AO3 k) es j = some (some (j + i, e.val))) ∨ ((∀ e ∈ es, e.key ≠ AO3 k) ∧ Instr.findNow .string (AO3 k) es j = some none)
  | [], j, _ => .inr ⟨fun e he => (by cases he), rfl⟩
  | x :: es, j, h => by
    obtain ⟨s, hs⟩ := h x W6;by_cases hk : k = s
    · refine .inl ⟨0, x, rfl, by rw [hk]; exact hs, ?_⟩
      subst hk;have hb : ((⟨k.toArray⟩ : ByteArray) == ⟨k.toArray⟩) = true := by rw [BU4]; simp
      simp only [Instr.findNow, hs, AO3, Instr.sameNow, hb, Nat.add_zero]
    · have hne : ((⟨k.toArray⟩ : ByteArray) == ⟨s.toArray⟩) = false := by rw [BU4]; simpa using hk
      have e : Instr.findNow .string (AO3 k) (x :: es) j = Instr.findNow .string (AO3 k) es (j + 1) := by
        simp only [Instr.findNow, hs, AO3, Instr.sameNow, hne]
      rcases CS1 (j + 1) (fun e he => h e (S7 _ he)) with ⟨i, y, h1, h2, h3⟩ | ⟨h1, h2⟩
      · exact .inl ⟨i + 1, y, by simpa using h1, h2, by rw [e, h3, Nat.add_right_comm, Nat.add_assoc]⟩
      · refine .inr ⟨fun y hy => ?_, by rw [e, h2]⟩
        rcases O5.1 hy with rfl | hy
        · rw [hs]; intro h9; injection h9 with h9; exact hk (by simpa using h9.symm)
        · exact h1 y hy
theorem CS2 {k : Int} : ∀ {es : List MapEntry} (j : Nat), (∀ e ∈ es, ∃ s, e.key = W1 s) →
    (∃ i e, es[i]? = some e ∧ e.key = W1 k ∧ Instr.findNow (.int .i64) (W1 k) es j = some (some (j + i, e.val))) ∨ ((∀ e ∈ es, e.key ≠ W1 k) ∧ Instr.findNow (.int .i64) (W1 k) es j = some none)
  | [], j, _ => .inr ⟨fun e he => (by cases he), rfl⟩
  | x :: es, j, h => by
    obtain ⟨s, hs⟩ := h x W6;by_cases hk : k = s
    · refine .inl ⟨0, x, rfl, by rw [hk]; exact hs, ?_⟩
      subst hk;simp [Instr.findNow, hs, W1, Instr.sameNow]
    · have hne : (k == s) = false := by simpa using hk
      have e : Instr.findNow (.int .i64) (W1 k) (x :: es) j = Instr.findNow (.int .i64) (W1 k) es (j + 1) := by
        simp only [Instr.findNow, hs, W1, Instr.sameNow, hne, if_true]
      rcases CS2 (j + 1) (fun e he => h e (S7 _ he)) with ⟨i, y, h1, h2, h3⟩ | ⟨h1, h2⟩
      · exact .inl ⟨i + 1, y, by simpa using h1, h2, by rw [e, h3, Nat.add_right_comm, Nat.add_assoc]⟩
      · refine .inr ⟨fun y hy => ?_, by rw [e, h2]⟩
        rcases O5.1 hy with rfl | hy
        · rw [hs]; intro h9; injection h9 with h9 h8; exact hk h8.symm
        · exact h1 y hy
theorem same_str (s : List UInt8) : Instr.sameBits 10000 (AO3 s) (AO3 s) = true := by
  have hb : ((⟨s.toArray⟩ : ByteArray) == ⟨s.toArray⟩) = true := by rw [BU4]; simp
  exact hb
theorem same_int (s : Int) : Instr.sameBits 10000 (W1 s) (W1 s) = true := by simp [Instr.sameBits, W1]
theorem Ax1 {a : Nat} (ha : a < 4611686018427387904) : (BitVec.ofInt IntKind.i64.bits (a : Int)).toNat = a := by
  rw [BitVec.toNat_ofInt];show (((a : Int) % (2 ^ 64 : Nat)).toNat) = a
  omega
section
variable {P : Program} {G : Nat → Prop} {n : Nat} {own : List Own} {o : Oper} {E : N1} {t ty : TypeId} {p q : Operand} {a b : Nat}
theorem CS3 (ho : o.op = .binOp .and t p q ty) (hp : Ev E p (AV.int (a : Int))) (hq : Ev E q (AV.int (b : Int))) (ha : a < 4611686018427387904) (hb : b < 4611686018427387904) : OpW P G n own o E (AV.int ((a &&& b : Nat) : Int)) := N0 fun R w0 w _ he => by
  have h1 : w0.eval p = .int .i64 (a : Int) := G0 hp M8 he;have h2 : w0.eval q = .int .i64 (b : Int) := G0 hq M8 he;refine ⟨_, ?_, rfl⟩;simp only [execOp, ho, h1, h2, eqGuard_and, binOp_and, Op.intBits, BitVec.toNat_and, Ax1 ha, Ax1 hb, Sem.run_bind, Sem.run_pure, Result.andThen_ok];rw [Am1 (by have := Nat.and_le_left (n := a) (m := b); omega)]
theorem w_orN (ho : o.op = .binOp .or t p q ty) (hp : Ev E p (AV.int (a : Int))) (hq : Ev E q (AV.int (b : Int))) (ha : a < 4611686018427387904) (hb : b < 4611686018427387904) : OpW P G n own o E (AV.int ((a ||| b : Nat) : Int)) := N0 fun R w0 w _ he => by
  have h1 : w0.eval p = .int .i64 (a : Int) := G0 hp M8 he;have h2 : w0.eval q = .int .i64 (b : Int) := G0 hq M8 he;refine ⟨_, ?_, rfl⟩;simp only [execOp, ho, h1, h2, eqGuard_or, binOp_or, Op.intBits, BitVec.toNat_or, Ax1 ha, Ax1 hb, Sem.run_bind, Sem.run_pure, Result.andThen_ok];rw [Am1 (by have := Nat.or_lt_two_pow (n := 62) ha hb; omega)]
theorem CS4 {y : Int} (ho : o.op = .binOp .shr t p q ty) (hp : Ev E p (AV.int (a : Int))) (hq : Ev E q (AV.int y)) (h0 : 0 ≤ y) (h1 : y ≤ 64) : OpW P G n own o E (AV.int ((a / 2 ^ y.toNat : Nat) : Int)) := by
  have := CL7 (P := P) (G := G) (n := n) (own := own) ho hp hq h0 h1
  rwa [show ((a : Int) / 2 ^ y.toNat) = ((a / 2 ^ y.toNat : Nat) : Int) by rw [Int.natCast_ediv, Int.natCast_pow]; rfl] at this
theorem w_shl1 {y : Int} (ho : o.op = .binOp .shl t p q ty) (hp : Ev E p (AV.int 1)) (hq : Ev E q (AV.int y)) (h0 : 0 ≤ y) (h1 : y ≤ 60) : OpW P G n own o E (AV.int ((2 ^ y.toNat : Nat) : Int)) := N0 fun R w0 w _ he => by
  have e1 : w0.eval p = .int .i64 1 := G0 hp M8 he;have e2 : w0.eval q = .int .i64 y := G0 hq M8 he;have hm : min y.toNat IntKind.i64.bits = y.toNat := Nat.min_eq_left (show y.toNat ≤ 64 by omega);have hlt : 2 ^ y.toNat ≤ 2 ^ 60 := Nat.pow_le_pow_right D5 qz8;refine ⟨_, ?_, rfl⟩;simp only [execOp, ho, e1, e2, eqGuard_shl, binOp_shl, shift_shl_any _ _ _ _ h0, hm, Sem.run_bind, Sem.run_pure, Result.andThen_ok];have : (1 : Int) * 2 ^ y.toNat = ((2 ^ y.toNat : Nat) : Int) := by rw [Int.one_mul, Int.natCast_pow]; rfl
  rw [this];generalize 2 ^ y.toNat = z at hlt
  rw [Am1 qz8]
theorem bit_one {s : Nat} {k : Nat} : ((((s / 2 ^ k &&& 1 : Nat) : Int)) == 1) = s.testBit k := by
  rw [Nat.testBit_eq_decide_div_mod_eq, Nat.and_one_is_mod, AP2, e8, I4]; omega
theorem CS5 {s : Nat} {k : Nat} : ((((s / 2 ^ k &&& 1 : Nat) : Int)) == 0) = !s.testBit k := by
  rw [Nat.testBit_eq_decide_div_mod_eq, Nat.and_one_is_mod, AP2, e8, l7, AP0]; omega
theorem evb_clo3 {f : FuncId} {b b' b3 : Nat} {t t' t3 : TypeId} {cs cs' cs3 : List AV} (i j k : Nat) (h : Ev E p (AV.clo f [AV.ptr b 0, AV.ptr b' 0, AV.ptr b3 0])) (hi : own[i]? = some (.box b t cs)) (hj : own[j]? = some (.box b' t' cs')) (hk : own[k]? = some (.box b3 t3 cs3)) : EvB own E p (AV.clo f [AV.eptr cs, AV.eptr cs', AV.eptr cs3]) := fun G w0 R0 R a w hc he => by
  obtain ⟨vs, h1, h2⟩ := h R a he;refine ⟨vs, h1, ?_⟩
  match vs, h2.1 with
  | [v, u, x], _ =>
    have e1 : v = _ := h2.2 0 v _ rfl rfl;have e2 : u = _ := h2.2 1 u _ rfl rfl;have e3 : x = _ := h2.2 2 x _ rfl rfl;rw [e1, e2, e3];exact o6.cons (BN1 hc i hi) (o6.cons (BN1 hc j hj) (o6.cons (BN1 hc k hk) (o6.nil _)))
end
end Go.AV
namespace Go.M
open Go.AV
def CM2 (h : List B4) (s : Nat) : Bool := (I1 h).all fun n => s.testBit n.toNat
def AA8 (h : List B4) (s : Nat) (n : Int) : Bool := !s.testBit n.toNat && !(I1 h).any fun m => !s.testBit m.toNat && AF8 (G7 h m) (G7 h n)
def AA9 (s : Nat) (n : Int) : Nat := s ||| 2 ^ n.toNat
def AL6 (h : List B4) (s : Nat) : Nat := ((I1 h).filter fun n => !s.testBit n.toNat).length
def X4 (h : List B4) : Nat → Nat → List A4 → Option (List Int)
  | 0, _, _ => some []
  | k + 1, s, rows => (I1 h).findSome? fun n => if (AA8 h s n && j3 rows (G7 h n)) = true then (X4 h k (AA9 s n) (a7 rows (G7 h n).Writes)).map (n :: ·) else none
def Y8 (h : List B4) : Nat → Nat → Nat
  | 0, _ => 1
  | k + 1, s => ((I1 h).map fun n => if AA8 h s n = true then Y8 h k (AA9 s n) else 0).sum
theorem Aq4 {s : Nat} {n : Int} {j : Nat} : (AA9 s n).testBit j = (s.testBit j || decide (n.toNat = j)) := by
  unfold AA9;rw [Nat.testBit_or, Nat.testBit_two_pow]
theorem AR1 {h : List B4} {n : Int} (hn : n ∈ I1 h) : 0 ≤ n ∧ n < (h.length : Int) := (Bc8.1 hn).1
theorem yes_nd (h : List B4) : (I1 h).Nodup := by
  unfold I1;rw [List.nodup_iff_pairwise_ne, List.pairwise_filterMap];refine (List.nodup_iff_pairwise_ne.1 List.nodup_range).imp ?_;intro a b hab x hx y hy e;split at hx
  · split at hy
    · injection hx with hx; injection hy with hy; subst hx; subst hy; exact hab (Int.ofNat.inj e)
    · cases hy
  · cases hx
theorem Bg2 {p q : Int → Bool} {n : Int} : ∀ {l : List Int}, l.Nodup → n ∈ l → p n = true → q n = false → (∀ m ∈ l, m ≠ n → q m = p m) → (l.filter q).length + 1 = (l.filter p).length
  | x :: l, hnd, hm, hp, hq, hpq => by
    have h1 := List.nodup_cons.1 hnd;by_cases e : x = n
    · subst e
      rw [List.filter_cons_of_pos hp, List.filter_cons_of_neg (by rw [hq]; decide), H1];congr 1
      have : l.filter q = l.filter p := List.filter_congr fun m hml => hpq m (S7 _ hml) fun e2 => h1.1 (e2 ▸ hml);rw [this]
    · have ih := Bg2 h1.2 ((O5.1 hm).resolve_left fun h2 => e h2.symm) hp hq fun m hml => hpq m (S7 _ hml)
      have hx := hpq x W6 e
      cases hpx : p x with
      | true => rw [List.filter_cons_of_pos hpx, List.filter_cons_of_pos (by rw [hx]; exact hpx), H1, H1]; omega
      | false => rw [List.filter_cons_of_neg (p := q) (by rw [hx, hpx]; decide), List.filter_cons_of_neg (p := p) (by rw [hpx]; decide)]; exact ih
theorem Aq5 {h : List B4} {s : Nat} {n : Int} (hn : n ∈ I1 h) (hb : s.testBit n.toNat = false) : AL6 h (AA9 s n) + 1 = AL6 h s := by
  refine Bg2 (yes_nd h) hn (by rw [hb]; rfl) (by rw [Aq4]; simp) fun m hm hne => ?_;have h1 := AR1 hn;have h2 := AR1 hm;rw [Aq4, AM4 (show ¬ n.toNat = m.toNat by omega), Bool.or_false]
theorem CD3 {h : List B4} {s : Nat} : (AL6 h s = 0) ↔ CM2 h s = true := by
  unfold AL6 CM2;rw [List.length_eq_zero_iff, List.filter_eq_nil_iff, l8];exact forall_congr' fun n => imp_congr_right fun _ => by cases s.testBit n.toNat <;> simp
theorem Ak7 (h : List B4) : AL6 h 0 = (I1 h).length := by
  unfold AL6;rw [List.filter_eq_self.2 fun n _ => by simp]
theorem CS6 {s : Nat} {n : Int} (hs : s < 1024) (hn : n < 10) : AA9 s n < 1024 := by
  have h2 : 2 ^ n.toNat < 2 ^ 10 := Nat.pow_lt_pow_right D5 qz8;exact Nat.or_lt_two_pow (n := 10) hs h2
def Z4 (o : List Int) : Nat := o.foldl AA9 0
theorem BE7 (o : List Int) (n : Int) : Z4 (o ++ [n]) = AA9 (Z4 o) n := by unfold Z4; rw [List.foldl_append]; rfl
theorem CS7 {j : Nat} : ∀ {o : List Int} {s : Nat}, (∀ n ∈ o, 0 ≤ n) → (o.foldl AA9 s).testBit j = (s.testBit j || o.any fun y => (j : Int) == y)
  | [], s, _ => by simp
  | n :: o, s, h => by
    have h0 := h n W6;rw [List.foldl_cons, CS7 fun m hm => h m (S7 _ hm), Aq4, AX4, Bool.or_assoc];congr 2
    rw [AP2, I4, e8]; omega
theorem bits_bit {o : List Int} {j : Nat} (h : ∀ n ∈ o, 0 ≤ n) : (Z4 o).testBit j = o.any fun y => (j : Int) == y := by
  unfold Z4; rw [CS7 h, Nat.zero_testBit, Bool.false_or]
theorem CD4 {h : List B4} : ∀ {o : List Int} {s : Nat}, o.Nodup → (∀ n ∈ o, n ∈ I1 h ∧ s.testBit n.toNat = false) → AL6 h (o.foldl AA9 s) + o.length = AL6 h s
  | [], s, _, _ => rfl
  | n :: o, s, hnd, hs => by
    have h1 := List.nodup_cons.1 hnd;have hn := hs n W6;have ih := CD4 (h := h) (o := o) (s := AA9 s n) h1.2 fun m hm => ⟨(hs m (S7 _ hm)).1, by
      have h2 := hs m (S7 _ hm);have h3 := AR1 h2.1;have h4 := AR1 hn.1;rw [Aq4, h2.2, Bool.false_or, AM4 (show ¬ n.toNat = m.toNat from fun e => h1.1 ((show n = m by omega) ▸ hm))]⟩
    have := Aq5 hn.1 hn.2;rw [List.foldl_cons, H1]; omega
theorem bits_len {h : List B4} {o : List Int} (hnd : o.Nodup) (hs : ∀ n ∈ o, n ∈ I1 h) : AL6 h (Z4 o) + o.length = (I1 h).length := by
  have := CD4 (h := h) (s := 0) hnd fun n hn => ⟨hs n hn, Nat.zero_testBit _⟩;rw [Ak7] at this; exact this
theorem Ch0 : ∀ {o : List Int} {s : Nat}, s < 1024 → (∀ n ∈ o, n < 10) → o.foldl AA9 s < 1024
  | [], s, hs, _ => hs
  | n :: o, s, hs, h => Ch0 (o := o) (s := AA9 s n) (CS6 hs (h n W6)) fun m hm => h m (S7 _ hm)
def Ar2 (w : A4) : Str := (([32] ++ w.Key) ++ [61]) ++ w.Val
def Aj6 (s : Nat) (rows : List A4) : Str := AH0 (s : Int) ++ (rows.map Ar2).flatten
theorem Cu1 {s : Nat} {rows : List A4} {i : Nat} {w : A4} (hw : rows[i]? = some w) : Aj6 s (rows.take (i + 1)) = Aj6 s (rows.take i) ++ Ar2 w := by
  unfold Aj6;rw [V7, hw, V1, Ae5, e6];simp
theorem Bc9 {c : UInt8} : ∀ {a b x y : Str}, c ∉ a → c ∉ b → (x = [] ∨ ∃ r, x = c :: r) → (y = [] ∨ ∃ r, y = c :: r) → a ++ x = b ++ y → a = b ∧ x = y
  | [], [], x, y, _, _, _, _, e => ⟨rfl, e⟩
  | [], d :: b, x, y, _, hb, hx, _, e => by
    exfalso
    rcases hx with rfl | ⟨r, rfl⟩
    · cases e
    · simp only [AF5, Ah2, List.cons.injEq] at e
      exact hb (by rw [e.1]; exact W6)
  | d :: a, [], x, y, ha, _, _, hy, e => by
    exfalso
    rcases hy with rfl | ⟨r, rfl⟩
    · cases e
    · simp only [AF5, Ah2, List.cons.injEq] at e
      exact ha (by rw [← e.1]; exact W6)
  | d :: a, f :: b, x, y, ha, hb, hx, hy, e => by
    simp only [Ah2, List.cons.injEq] at e;have := Bc9 (fun h => ha (S7 _ h)) (fun h => hb (S7 _ h)) hx hy e.2;exact ⟨by rw [e.1, this.1], this.2⟩
def Bl9 (w : A4) : Prop := w.Gone = false ∧ ((32 : UInt8) ∉ w.Key ∧ (61 : UInt8) ∉ w.Key) ∧ (32 : UInt8) ∉ w.Val
theorem BE8 (rows : List A4) : (rows.map Ar2).flatten = [] ∨ ∃ r, (rows.map Ar2).flatten = 32 :: r := by
  cases rows with
  | nil => exact .inl rfl
  | cons w rows => exact .inr ⟨_, rfl⟩
theorem CS8 : ∀ {a b : List A4}, (∀ w ∈ a, Bl9 w) → (∀ w ∈ b, Bl9 w) → (a.map Ar2).flatten = (b.map Ar2).flatten → a = b
  | [], [], _, _, _ => rfl
  | [], w :: b, _, _, e => by simp [Ar2] at e
  | w :: a, [], _, _, e => by simp [Ar2] at e
  | w :: a, v :: b, ha, hb, e => by
    have hw := ha w W6;have hv := hb v W6;simp only [T3, AT1, Ar2, e6, Ah2, AF5, List.cons.injEq, true_and] at e;obtain ⟨e1, e2⟩ := Bc9 (c := 61) hw.2.1.2 hv.2.1.2 (.inr ⟨_, rfl⟩) (.inr ⟨_, rfl⟩) e;rw [List.cons.injEq] at e2;obtain ⟨e3, e4⟩ := Bc9 (c := 32) hw.2.2 hv.2.2 (BE8 a) (BE8 b) e2.2;have e5 := CS8 (fun x hx => ha x (S7 _ hx)) (fun x hx => hb x (S7 _ hx)) e4;subst e5;congr 1
    cases w; cases v
    simp only at e1 e3 hw hv;obtain ⟨g1, _⟩ := hw;obtain ⟨g2, _⟩ := hv;dsimp only at g1 g2;rw [e1, e3, g1, g2]
theorem keyT_inj {s t : Nat} {a b : List A4} (hs : s < 1024) (ht : t < 1024) (ha : ∀ w ∈ a, Bl9 w) (hb : ∀ w ∈ b, Bl9 w) (e : Aj6 s a = Aj6 t b) : s = t ∧ a = b := by
  obtain ⟨e1, e2⟩ := Bc9 (c := 32) (Cg5 ⟨.inl D5, by decide⟩) (Cg5 ⟨.inl D5, by decide⟩) (BE8 a) (BE8 b) e;refine ⟨?_, CS8 ha hb e2⟩;have h1 := CR3 (n := (s : Int)) qz8;have h2 := CR3 (n := (t : Int)) qz8;rw [e1, h2, Prod.mk.injEq] at h1;have := h1.1;omega
theorem key_no9 {s : Str} (h : m7 s = true) : (32 : UInt8) ∉ s ∧ (61 : UInt8) ∉ s := by
  unfold m7 at h;rw [F0] at h;exact ⟨CL9 h.2 D5, CL9 h.2 D5⟩
theorem val_no9 {s : Str} (h : AJ5 s = true) : (32 : UInt8) ∉ s ∧ (61 : UInt8) ∉ s := by
  unfold AJ5 at h;rw [F0] at h;exact ⟨CL9 h.2 D5, CL9 h.2 D5⟩
theorem rowK_c {rows : List A4} (h : Bt9 rows) : ∀ w ∈ rows, Bl9 w := fun w hw => by
  obtain ⟨h1, h2⟩ := h.2 w hw;unfold AM8 Ae8 at h2;simp only [F0] at h2;exact ⟨h1, key_no9 h2.1.1, (val_no9 h2.1.2).1⟩
def Be1 (h : List B4) (t : Str) : Prop := ∃ s rows, s < 1024 ∧ (∀ w ∈ rows, Bl9 w) ∧ t = Aj6 s rows ∧ X4 h (AL6 h s) s rows = none
def Ay7 (h : List B4) : Obj → Prop := fun x => ∃ es clock, x = .map es clock ∧ ∀ e ∈ es.toList, ∃ t, e.key = Go.AV.AO3 t ∧ e.val = .bool true ∧ Be1 h t
theorem Cu2 {h : List B4} {s : Nat} {rows : List A4} (hs : s < 1024) (hr : ∀ w ∈ rows, Bl9 w) (hd : Be1 h (Aj6 s rows)) : X4 h (AL6 h s) s rows = none := by
  obtain ⟨s', rows', h1, h2, h3, h4⟩ := hd;obtain ⟨rfl, rfl⟩ := keyT_inj hs h1 hr h2 h3;exact h4
theorem keyS_inj {a b : Str} (h : Go.AV.AO3 a = Go.AV.AO3 b) : a = b := by
  unfold Go.AV.AO3 at h;injection h with h
  simpa using h
theorem CD5 {h : List B4} {es : Array MapEntry} (hes : ∀ e ∈ es.toList, ∃ t, e.key = Go.AV.AO3 t ∧ e.val = .bool true ∧ Be1 h t) (t : Str) :
    ∃ (r : Option (Nat × Value)) (y : Bool), Instr.findNow .string (Go.AV.AO3 t) es.toList 0 = some r ∧ Bz8 (.bool false) r = .bool y ∧ (y = true → Be1 h t) ∧ (∀ j u, r = some (j, u) → Instr.sameBits 10000 (((es[j]?).map (·.key)).getD (Go.AV.AO3 t)) (Go.AV.AO3 t) = true) := by
  rcases CS1 (k := t) (es := es.toList) 0 fun e he => let ⟨s, h1, _⟩ := hes e he; ⟨s, h1⟩ with ⟨i, e, h1, h2, h3⟩ | ⟨h1, h2⟩
  · have hm := C3 h1
    obtain ⟨s, k1, k2, k3⟩ := hes e hm;have hst : s = t := keyS_inj (k1.symm.trans h2);subst hst;refine ⟨some (0 + i, e.val), true, h3, k2, fun _ => k3, fun j u hj => ?_⟩;injection hj with hj
    rw [Prod.mk.injEq] at hj;have hji : j = i := by omega
    subst hji;rw [← Array.getElem?_toList, h1, AB2, Option.getD_some, h2];exact same_str _
  · exact ⟨none, false, h2, rfl, fun h => (by cases h), fun j u hj => (by cases hj)⟩
theorem dead_put {h : List B4} {es : Array MapEntry} {clock : Nat} {t : Str} {r : Option (Nat × Value)} (hes : ∀ e ∈ es.toList, ∃ t, e.key = Go.AV.AO3 t ∧ e.val = .bool true ∧ Be1 h t) (hd : Be1 h t) : Ay7 h (BL2 es clock (Go.AV.AO3 t) (.bool true) r) := by
  cases r with
  | none =>
    refine ⟨_, _, rfl, fun e he => ?_⟩;rw [Array.toList_push, Z7] at he;rcases he with he | he
    · exact hes e he
    · rw [V8.1 he]; exact ⟨t, rfl, rfl, hd⟩
  | some r =>
    obtain ⟨j, u⟩ := r;refine ⟨_, _, rfl, fun e he => ?_⟩;obtain ⟨i, hi⟩ := j4 he;rw [Array.getElem?_toList, Array.getElem?_modify] at hi;split at hi
    · obtain ⟨x, _, hx⟩ := Option.map_eq_some_iff.1 hi
      rw [← hx]; exact ⟨t, rfl, rfl, hd⟩
    · exact hes e (by rw [← Array.getElem?_toList] at hi; exact C3 hi)
theorem dead_new (h : List B4) : Ay7 h (.map #[] 0) := ⟨_, _, rfl, fun e he => (by cases he)⟩
theorem BB3 {h : List B4} {s : Nat} {n : Int} (hm : AA8 h s n = true) : s.testBit n.toNat = false ∧ ∀ m ∈ I1 h, s.testBit m.toNat = false → AF8 (G7 h m) (G7 h n) = false := by
  unfold AA8 at hm;simp only [F0, l7, List.any_eq_false] at hm;refine ⟨hm.1, fun m h1 h2 => ?_⟩;have := hm.2 m h1;rw [h2] at this;simpa using this
theorem Bx3 {α : Type} {f : α → Nat} {x : α} : ∀ {l : List α}, x ∈ l → f x ≤ (l.map f).sum
  | y :: l, hx => by
    rw [T3, List.sum_cons];rcases O5.1 hx with rfl | hx
    · omega
    · have := Bx3 (f := f) hx; omega
theorem CD6 {h : List B4} (g : X7 h = true) (hk : Be0 h) : ∀ (k s : Nat) (rows : List A4) (l : List Int), AL6 h s = k → Af4 rows → X4 h k s rows = some l →
    l.Nodup ∧ (∀ n ∈ l, n ∈ I1 h ∧ s.testBit n.toNat = false) ∧ AL0 h l = true ∧ (∃ x, AT2 h l rows true = some (x, true)) ∧ 1 ≤ Y8 h k s
  | 0, s, rows, l, _, _, e => by
    unfold X4 at e;injection e with e; subst e
    exact ⟨List.nodup_nil, fun n hn => (by cases hn), rfl, ⟨rows, rfl⟩, L5 _⟩
  | k + 1, s, rows, l, hl, hr, e => by
    unfold X4 at e;obtain ⟨n, hn, e⟩ := List.exists_of_findSome?_eq_some e;split at e
    · rename_i hc
      rw [F0] at hc;obtain ⟨r, e1, rfl⟩ := Option.map_eq_some_iff.1 e;have hb := BB3 hc.1;have hin := AR1 hn;have hdm : G7 h n ∈ h := by
        unfold G7;rw [O1 (show n.toNat < h.length by omega)];exact List.getElem_mem _
      have hdw := AY8 (AV4 g hdm);have hp := Au5 hr hdw.2.1 (hk _ hdm);have hadd := Aq5 hn hb.1;obtain ⟨i1, i2, i3, ⟨x, i4⟩, i5⟩ := CD6 g hk k (AA9 s n) (a7 rows (G7 h n).Writes) r qz8 hp.1 e1;refine ⟨List.nodup_cons.2 ⟨fun hm => ?_, i1⟩, fun m hm => ?_, ?_, ⟨x, ?_⟩, ?_⟩
      · have := (i2 n hm).2
        rw [Aq4] at this; simp at this
      · rcases O5.1 hm with rfl | hm
        · exact ⟨hn, hb.1⟩
        · have h1 := i2 m hm
          refine ⟨h1.1, ?_⟩;have h2 := h1.2;rw [Aq4, AL2] at h2;exact h2.1
      · show ((r.all fun m => !AF8 (G7 h m) (G7 h n)) && AL0 h r) = true
        rw [i3, Bool.and_true, l8];intro m hm;have h1 := i2 m hm;have h2 := h1.2;rw [Aq4, AL2] at h2;rw [hb.2 m h1.1 h2.1]; rfl
      · rw [Cm0, D1 (Bc8.1 hn).2, D1 (by have := hp.2; omega), hc.2, Bool.and_true]
        exact i4
      · unfold Y8
        refine L4 ?_ (Bx3 (f := fun n => if AA8 h s n = true then Y8 h k (AA9 s n) else 0) hn);show 1 ≤ (if AA8 h s n = true then Y8 h k (AA9 s n) else 0)
        rw [D1 hc.1]; exact i5
    · cases e
theorem Ch1 {α : Type} {f : α → Nat} {B : Nat} : ∀ {l : List α}, (∀ x ∈ l, f x ≤ B) → (l.map f).sum ≤ l.length * B
  | [], _ => by simp
  | x :: l, h => by
    have h1 := h x W6;have h2 := Ch1 (f := f) (B := B) (l := l) fun y hy => h y (S7 _ hy);rw [T3, List.sum_cons, H1, Nat.succ_mul]; omega
theorem BE0 {h : List B4} : ∀ (k s : Nat), Y8 h k s ≤ (I1 h).length ^ k
  | 0, s => L5 _
  | k + 1, s => by
    unfold Y8;refine L4 (Ch1 (B := (I1 h).length ^ k) fun n _ => ?_) (by rw [Nat.pow_succ, Nat.mul_comm]; exact L5 _);split
    · exact BE0 k _
    · exact D6 _
theorem pow7 {n k : Nat} (hn : n ≤ 7) (hk : k ≤ 7) : n ^ k ≤ 823543 :=
  L4 (Nat.pow_le_pow_left hn k) (L4 (Nat.pow_le_pow_right D5 hk) D5)
def eS (e : MapEntry) : Nat := match e.key with | .int _ n => n.toNat | _ => 0
def eV (e : MapEntry) : Nat := match e.val with | .int _ n => n.toNat | _ => 0
structure CntE (h : List B4) (k : Nat) (e : MapEntry) : Prop where
  key : e.key = Go.AV.W1 (eS e : Int)
  val : e.val = Go.AV.W1 (eV e : Int)
  lt : eS e < 1024
  left : AL6 h (eS e) = k
def wS (f : MapEntry → Nat) (es : List MapEntry) : Nat := (es.map f).sum
structure MapWF (es : Array MapEntry) (clock : Nat) : Prop where
  born : ∀ e ∈ es.toList, e.born < clock
  nd : (es.toList.map (·.born)).Nodup
def cW (h : List B4) (k : Nat) (e : MapEntry) : Nat := eV e * Y8 h k (eS e)
structure CntA (h : List B4) (k c B : Nat) (es : Array MapEntry) (clock : Nat) : Prop where
  wf : MapWF es clock
  ent : ∀ e ∈ es.toList, CntE h k e
  sum : wS (cW h k) es.toList = c
  le : wS eV es.toList ≤ B
def AO6 (h : List B4) (k c B : Nat) : Obj → Prop := fun x => ∃ es clock, x = .map es clock ∧ CntA h k c B es clock
theorem Ch2 (h : List B4) (k : Nat) : CntA h k 0 0 #[] 0 := ⟨⟨fun e he => (by cases he), List.nodup_nil⟩, fun e he => (by cases he), rfl, L5 _⟩
theorem cntM_nil (h : List B4) (k : Nat) : AO6 h k 0 0 (.map #[] 0) := ⟨_, _, rfl, Ch2 h k⟩
theorem keyI_inj {a b : Int} (h : Go.AV.W1 a = Go.AV.W1 b) : a = b := by unfold Go.AV.W1 at h; injection h
theorem wS_app (f : MapEntry → Nat) (a b : List MapEntry) : wS f (a ++ b) = wS f a + wS f b := by unfold wS; rw [V1, List.sum_append]
theorem BX2 {f : MapEntry → Nat} {g : MapEntry → MapEntry} {e : MapEntry} : ∀ {es : List MapEntry} {i : Nat}, es[i]? = some e → wS f (es.modify i g) + f e = wS f es + f (g e)
  | x :: es, 0, h => by simp at h; subst h; unfold wS; simp; omega
  | x :: es, i + 1, h => by
    have := BX2 (f := f) (g := g) (es := es) (i := i) Al3;unfold wS at this ⊢;simp only [List.modify_succ_cons, T3, List.sum_cons]; omega
theorem CS9 {f : MapEntry → Nat} {es : List MapEntry} {e : MapEntry} (h : e ∈ es) : f e ≤ wS f es := Bx3 h
theorem Bg3 {g : MapEntry → MapEntry} (hg : ∀ e, (g e).born = e.born) : ∀ {es : List MapEntry} {i : Nat}, (es.modify i g).map (·.born) = es.map (·.born)
  | [], i => by cases i <;> rfl
  | x :: es, 0 => by simp [hg]
  | x :: es, i + 1 => by simp only [List.modify_succ_cons, T3, Bg3 hg (es := es) (i := i)]
theorem BP9 {g : MapEntry → MapEntry} {y : MapEntry} : ∀ {es : List MapEntry} {i : Nat}, y ∈ es.modify i g → y ∈ es ∨ ∃ e, es[i]? = some e ∧ y = g e
  | [], i, h => by cases i <;> cases h
  | x :: es, 0, h => by
    simp only [List.modify_zero_cons, O5] at h;rcases h with h | h
    · exact .inr ⟨x, rfl, h⟩
    · exact .inl (S7 _ h)
  | x :: es, i + 1, h => by
    simp only [List.modify_succ_cons, O5] at h;rcases h with h | h
    · exact .inl (h ▸ W6)
    · rcases BP9 h with h2 | ⟨e, h2, h3⟩
      · exact .inl (S7 _ h2)
      · exact .inr ⟨e, by simpa using h2, h3⟩
theorem Ch3 {h : List B4} {k c B clock : Nat} {es : Array MapEntry} (a : CntA h k c B es clock) {t : Nat} (ht : t < 1024) (hl : AL6 h t = k) :
    ∃ (r : Option (Nat × Value)) (v : Nat), Instr.findNow (.int .i64) (Go.AV.W1 (t : Int)) es.toList 0 = some r ∧ Bz8 (.int .i64 0) r = Go.AV.W1 (v : Int) ∧ v ≤ B ∧ (∀ j u, r = some (j, u) → Instr.sameBits 10000 (((es[j]?).map (·.key)).getD (Go.AV.W1 (t : Int))) (Go.AV.W1 (t : Int)) = true) ∧
      ∀ n : Nat, AO6 h k (c + n * Y8 h k t) (B + n) (BL2 es clock (Go.AV.W1 (t : Int)) (Go.AV.W1 ((v + n : Nat) : Int)) r) := by
  rcases CS2 (k := (t : Int)) (es := es.toList) 0 fun e he => ⟨_, (a.ent e he).key⟩ with ⟨i, e, h1, h2, h3⟩ | ⟨h1, h2⟩
  · have hm := C3 h1
    have ce := a.ent e hm;have het : eS e = t := by have := keyI_inj (ce.key.symm.trans h2); omega
    have hvB : eV e ≤ B := L4 (CS9 hm) a.le;refine ⟨some (0 + i, e.val), eV e, h3, ce.val, hvB, fun j u hj => ?_, fun n => ?_⟩
    · injection hj with hj
      rw [Prod.mk.injEq] at hj;have hji : j = i := by omega
      subst hji;rw [← Array.getElem?_toList, h1, AB2, Option.getD_some, h2];exact same_int _
    · have e1 : 0 + i = i := Nat.zero_add i
      refine ⟨_, _, rfl, ?_⟩;rw [e1];have hgoal : (es.modify i fun x => { x with key := Go.AV.W1 (t : Int), val := Go.AV.W1 ((eV e + n : Nat) : Int) }).toList = es.toList.modify i fun x => { x with key := Go.AV.W1 (t : Int), val := Go.AV.W1 ((eV e + n : Nat) : Int) } := Array.toList_modify;have m1 : eS { e with key := Go.AV.W1 (t : Int), val := Go.AV.W1 ((eV e + n : Nat) : Int) } = t := by simp [eS, Go.AV.W1]
      have m2 : eV { e with key := Go.AV.W1 (t : Int), val := Go.AV.W1 ((eV e + n : Nat) : Int) } = eV e + n := by simp [eV, Go.AV.W1]; omega
      refine ⟨⟨fun y hy => ?_, ?_⟩, fun y hy => ?_, ?_, ?_⟩
      · rw [hgoal] at hy
        rcases BP9 hy with h4 | ⟨x, h4, rfl⟩
        · exact a.wf.born y h4
        · exact a.wf.born x (C3 h4)
      · rw [hgoal, Bg3 (g := fun x => { x with key := Go.AV.W1 (t : Int), val := Go.AV.W1 ((eV e + n : Nat) : Int) }) fun _ => rfl]; exact a.wf.nd
      · rw [hgoal] at hy
        rcases BP9 hy with h4 | ⟨x, h4, rfl⟩
        · exact a.ent y h4
        · refine ⟨?_, ?_, ?_, ?_⟩
          · simp [eS, Go.AV.W1]
          · simp [eV, Go.AV.W1]; omega
          · simp [eS, Go.AV.W1]; exact ht
          · simp [eS, Go.AV.W1]; exact hl
      · have := BX2 (f := cW h k) (g := fun x => { x with key := Go.AV.W1 (t : Int), val := Go.AV.W1 ((eV e + n : Nat) : Int) }) h1
        rw [hgoal];have e2 : cW h k { e with key := Go.AV.W1 (t : Int), val := Go.AV.W1 ((eV e + n : Nat) : Int) } = cW h k e + n * Y8 h k t := by
          unfold cW; rw [m1, m2, het, Nat.add_mul]
        rw [e2, a.sum] at this; omega
      · have := BX2 (f := eV) (g := fun x => { x with key := Go.AV.W1 (t : Int), val := Go.AV.W1 ((eV e + n : Nat) : Int) }) h1
        rw [hgoal];rw [m2] at this;have := a.le; omega
  · refine ⟨none, 0, h2, rfl, D6 _, fun j u hj => (by cases hj), fun n => ?_⟩
    refine ⟨_, _, rfl, ?_⟩;have m1 : eS { key := Go.AV.W1 (t : Int), val := Go.AV.W1 ((0 + n : Nat) : Int), born := clock } = t := by simp [eS, Go.AV.W1]
    have m2 : eV { key := Go.AV.W1 (t : Int), val := Go.AV.W1 ((0 + n : Nat) : Int), born := clock } = n := by simp [eV, Go.AV.W1]
    refine ⟨⟨fun y hy => ?_, ?_⟩, fun y hy => ?_, ?_, ?_⟩
    · rw [Array.toList_push, Z7] at hy
      rcases hy with hy | hy
      · have := a.wf.born y hy; omega
      · rw [V8.1 hy]; exact Nat.lt_succ_self _
    · rw [Array.toList_push, V1]
      refine List.nodup_append.2 ⟨a.wf.nd, by simp, fun x hx y hy => ?_⟩;obtain ⟨z, hz, rfl⟩ := n8.1 hx;have h5 := a.wf.born z hz;simp at hy; omega
    · rw [Array.toList_push, Z7] at hy
      rcases hy with hy | hy
      · exact a.ent y hy
      · rw [V8.1 hy]
        exact ⟨by rw [m1], by rw [m2, Nat.zero_add], by rw [m1]; exact ht, by rw [m1]; exact hl⟩
    · rw [Array.toList_push, wS_app, a.sum]
      show c + wS (cW h k) [_] = _
      unfold wS cW;rw [T3, m1, m2]; simp
    · rw [Array.toList_push, wS_app]
      have := a.le;show wS eV es.toList + wS eV [_] ≤ _
      have e3 : wS eV [{ key := Go.AV.W1 (t : Int), val := Go.AV.W1 ((0 + n : Nat) : Int), born := clock }] = n := by unfold wS; rw [T3, m2]; simp
      rw [e3]; omega
def AF9 (f : MapEntry → Nat) (es : List MapEntry) (seen : Array Nat) : Nat := wS f (es.filter fun e => seen.contains e.born)
theorem BQ0 (f : MapEntry → Nat) (es : List MapEntry) : AF9 f es #[] = 0 := by
  unfold AF9;rw [List.filter_eq_nil_iff.2 fun e _ => by simp]; rfl
theorem Ax2 {f : MapEntry → Nat} {e : MapEntry} {seen : Array Nat} (hs : seen.contains e.born = false) : ∀ {es : List MapEntry}, (es.map (·.born)).Nodup → e ∈ es → AF9 f es (seen.push e.born) = AF9 f es seen + f e
  | x :: es, hn, he => by
    have hn' : x.born ∉ es.map (·.born) ∧ (es.map (·.born)).Nodup := List.nodup_cons.1 hn;unfold AF9;rcases O5.1 he with rfl | he
    · rw [List.filter_cons_of_pos (by rw [contains_push]; simp), List.filter_cons_of_neg (by rw [hs]; decide)]
      have : es.filter (fun y => (seen.push e.born).contains y.born) = es.filter fun y => seen.contains y.born := List.filter_congr fun y hy => by
        rw [contains_push];have : (y.born == e.born) = false := by
          cases hc : y.born == e.born with
          | false => rfl
          | true => exact absurd (n8.2 ⟨y, hy, e8.1 hc⟩) hn'.1
        rw [this, Bool.or_false]
      rw [this]; unfold wS; rw [T3, List.sum_cons]; omega
    · have ih := Ax2 (f := f) hs hn'.2 he
      unfold AF9 at ih;have hx : (x.born == e.born) = false := by
        cases hc : x.born == e.born with
        | false => rfl
        | true => exact absurd (by rw [e8.1 hc]; exact n8.2 ⟨e, he, rfl⟩) hn'.1
      cases hc : seen.contains x.born with
      | true =>
        rw [List.filter_cons_of_pos (by rw [contains_push, hc]; rfl), List.filter_cons_of_pos (by exact hc)];unfold wS at ih ⊢;rw [T3, T3, List.sum_cons, List.sum_cons]; omega
      | false =>
        rw [List.filter_cons_of_neg (by rw [contains_push, hc, hx]; decide), List.filter_cons_of_neg (by rw [hc]; decide)];exact ih
theorem BX3 {f : MapEntry → Nat} {es : Array MapEntry} {seen : Array Nat} (h : (leftOf es seen).size = 0) : AF9 f es.toList seen = wS f es.toList := by
  unfold AF9;rw [List.filter_eq_self.2 fun e he => all_seen es seen h e he]
theorem CD7 {f : MapEntry → Nat} {p : MapEntry → Bool} : ∀ {es : List MapEntry}, wS f (es.filter p) ≤ wS f es
  | [] => L5 _
  | x :: es => by
    have := CD7 (f := f) (p := p) (es := es)
    cases h : p x with
    | true => rw [List.filter_cons_of_pos h]; unfold wS at this ⊢; rw [T3, T3, List.sum_cons, List.sum_cons]; omega
    | false => rw [List.filter_cons_of_neg (by rw [h]; decide)]; unfold wS at this ⊢; rw [T3, List.sum_cons]; omega
theorem CT0 {f : MapEntry → Nat} {es : List MapEntry} {seen : Array Nat} : AF9 f es seen ≤ wS f es := CD7
def Ay8 (h : List B4) (k s v j : Nat) : Nat := (((I1 h).take j).map fun n => if AA8 h s n = true then v * Y8 h k (AA9 s n) else 0).sum
theorem Bp2 {h : List B4} {k s v j : Nat} {n : Int} (hn : (I1 h)[j]? = some n) : Ay8 h k s v (j + 1) = Ay8 h k s v j + (if AA8 h s n = true then v * Y8 h k (AA9 s n) else 0) := by
  unfold Ay8;rw [V7, hn, V1, List.sum_append]; simp
theorem Ch4 {α : Type} {v : Nat} {f : α → Nat} : ∀ {l : List α}, (l.map fun x => v * f x).sum = v * (l.map f).sum
  | [] => rfl
  | x :: l => by rw [T3, T3, List.sum_cons, List.sum_cons, Ch4, Nat.mul_add]
theorem Cu3 {h : List B4} {k s v j : Nat} (hj : (I1 h).length ≤ j) : Ay8 h k s v j = v * Y8 h (k + 1) s := by
  show _ = v * ((I1 h).map fun n => if AA8 h s n = true then Y8 h k (AA9 s n) else 0).sum
  unfold Ay8;rw [U1 hj, ← Ch4];congr 1
  refine List.map_congr_left fun n _ => ?_;by_cases hm : AA8 h s n = true
  · rw [D1 hm, D1 hm]
  · rw [D4 hm, D4 hm, Nat.mul_zero]
def leS (c k : Str) : Bool := Op.bytesLess c k || c == k
def u6 (l : List Str) (k : Str) : Nat := (l.takeWhile fun c => leS c k).length
def Ar3 (l : List Str) : Bool := (l.all m7 && adj Op.bytesLess l) && decide ((l.length : Int) < 4)
theorem Bk7 (l : List Str) (k : Str) : u6 l k ≤ l.length := (List.takeWhile_sublist _).length_le
theorem Bk8 {k : Str} : ∀ {l : List Str} {i : Nat} {c : Str}, l[i]? = some c → (i < u6 l k → leS c k = true) ∧ (i = u6 l k → leS c k = false)
  | [], i, c, h => by simp at h
  | d :: l, i, c, h => by
    unfold u6
    cases hd : leS d k with
    | true =>
      rw [List.takeWhile_cons_of_pos (p := fun c => leS c k) hd, H1]
      cases i with
      | zero => simp at h; subst h; exact ⟨fun _ => hd, fun e => by omega⟩
      | succ i =>
        have ih := Bk8 (k := k) (l := l) (i := i) (c := c) Al3;unfold u6 at ih;exact ⟨fun hl => ih.1 qz8, fun e => ih.2 qz8⟩
    | false =>
      rw [List.takeWhile_cons_of_neg (p := fun c => leS c k) (by rw [hd]; decide)];refine ⟨fun hl => by simp at hl, fun e => ?_⟩;simp at e; subst e;simp at h; subst h; exact hd
def lookKeys (l : List Str) : Bool := within (l.length : Int) 1 8 && n7 l
def goodTxnW (w : E0) (t : B1) : Bool := ((((((AF2 t.Ops && decide (0 < (t.Ops.length : Int))) && AY5 t.Got) && ((t.Terms.length : Int) == (w.Groups.length : Int))) && (t.Terms.all fun n => within n 0 200)) && within t.Begin (-1) w.Count) && within t.End (-1) w.Count) && AC1 t.Time
def Cz0 (l : List H4) (ks : List Str) : Bool := (List.range l.length).all fun i => match l[i]?, ks[i]? with
  | some g, some k => g.Key == k
  | _, _ => false
def Cz1 (w : E0) (l : B5) : Bool := (((((((within l.Node 0 ((w.Clocks.length : Int) - 1) && lookKeys l.Keys) && decide ((l.Got.length : Int) ≤ (l.Keys.length : Int))) && AY5 l.Got) && Cz0 l.Got l.Keys) && AC1 l.Time) && within l.Begin (-1) w.Count) && within l.End (-1) w.Count)
structure WD9 (w : E0) : Prop where
  size : w.size ≤ 1000000
  keys : ∀ g ∈ w.Groups, AP4 Bt7 g
  ops : ∀ t ∈ w.Txns, ∀ o ∈ t.Ops, o.Key ∈ AA7
  ends : ∀ t ∈ w.Txns, t.End = -1 ∨ t.Begin < t.End
  lends : ∀ l ∈ w.Looks, l.End = -1 ∨ l.Begin < l.End
structure GW (w : E0) : Prop where
  cuts : w.Cuts.length ≤ 2 ∧ Ar3 w.Cuts = true
  groups : w.Groups.length = w.Cuts.length + 1 ∧ ∀ g ∈ w.Groups, GG g ∧ g.Reps.length = 3
  locks : w.Locks.length = w.Cuts.length + 1
  promised : w.Promised.length = w.Cuts.length + 1
  clocks : w.Clocks.length = 3 * (w.Cuts.length + 1) ∧ ∀ c ∈ w.Clocks, -5 ≤ c.Off ∧ c.Off ≤ 5
  now : 0 ≤ w.Now ∧ w.Now ≤ 100000
  count : 0 ≤ w.Count ∧ w.Count ≤ 1000000
  txns : w.Txns.length ≤ 6 ∧ ∀ t ∈ w.Txns, goodTxnW w t = true
  looks : w.Looks.length ≤ 4 ∧ ∀ l ∈ w.Looks, Cz1 w l = true
structure V2 where
  p : Nat
  seed : Int
def Ag9 (l : List Int) : AV := AV.list 1 (l.map fun x => [AV.ik .u8 x])
def U4 (code : List Int) (c : V2) : List AV := [Ag9 code, AV.int c.p, AV.ik .u64 c.seed]
def q6 (code : List Int) : Prop := ∀ x ∈ code, 0 ≤ x ∧ x ≤ 255
theorem CT1 {l : List Int} (h : ∀ x ∈ l, (Lit.int .u8 x).wf = true) : q6 l := fun x hx => by
  have := h x hx;simp only [Lit.wf, IntKind.min, IntKind.max, IntKind.signed, IntKind.bits] at this;simp at this;omega
theorem Bd0 {x : Int} (h : 0 ≤ x ∧ x ≤ 255) : IntKind.i64.wrap x = x := Am1 qz8
theorem AV5 (x : Int) : 0 ≤ Q7 x 255 ∧ Q7 x 255 ≤ 255 := by
  unfold Q7;have h1 : (BitVec.ofInt IntKind.u64.bits x &&& BitVec.ofInt IntKind.u64.bits 255).toNat ≤ 255 := by
    rw [BitVec.toNat_and];exact L4 Nat.and_le_right D5
  generalize (BitVec.ofInt IntKind.u64.bits x &&& BitVec.ofInt IntKind.u64.bits 255).toNat = n at h1
  unfold IntKind.wrap;simp [IntKind.bits, IntKind.signed];omega
def bigB (code more : List Int) : Bool := decide ((1048576 : Int) < code.length) || decide ((1048576 : Int) - code.length < more.length)
end Go.M
namespace Go.PQ
open Go.Proofs
open Go Go.AV Go.M
attribute [local irreducible] OpW OpA OpS AWP J3 K8 J6 J9 Le Ev F8
@[reducible] def F6 (f : FuncId) (xs : List AV) (y : AV) : Prop := J3 Tryz.prog f xs y
@[reducible] def M7 (f : FuncId) (xs : List AV) (ow : List Go.AV.Own) {α : Type} (ok : α → Prop) (O : α → List Go.AV.Own) (V : α → AV) : Prop := K0 Tryz.prog f xs ow ok O V
theorem AY9 (a b c : Int) : F6 46 [AV.int a, AV.int b, AV.int c] (AV.bool (within a b c)) := by
  refine B8 Tryz.func46 rfl Tryz.ntmps46 rfl ?_;refine R17 ?_;exact E5 rfl (A7 rfl m9)
theorem Q3 (a b c : Int) : F6 60 [AV.int a, AV.int b, AV.int c] (AV.bool (within a b c)) := by
  refine B8 Tryz.func60 rfl Tryz.ntmps60 rfl ?_;refine R17 ?_;exact E5 rfl (A7 rfl m9)
theorem Ca5 (c : UInt8) : F6 137 [AV.byte c] (AV.bool (Ag5 c)) := by
  refine B8 Tryz.func137 rfl Tryz.ntmps137 rfl ?_;refine R23 ?_;exact E5 rfl (A7 rfl m9)
theorem idxB_ext (s : Str) (c : UInt8) : K8 Tryz.prog 174 [AV.str s, AV.byte c] (AV.int (BR7 s c)) := espec_mk fun R w vs h => by
  obtain ⟨v, u, rfl, h1, h2⟩ := denV_two h;have e1 : v = .string ⟨s.toArray⟩ := h1;have e2 : u = .int .u8 c.toNat := h2;subst e1; subst e2;refine ⟨.int .i64 (BR7 s c), ?_, rfl⟩;rw [run_callFunc_indexByte Tryz.func174 E3 E3 E3 E3, run_indexByte_string];simp [BR7]
theorem Cm1 (s : Str) (c : UInt8) : F6 159 [AV.str s, AV.byte c] (AV.int (BR7 s c)) := by
  refine B8 Tryz.func159 rfl Tryz.ntmps159 rfl ?_;refine R8 ?_;refine A1 rfl (w_ext rfl rfl (idxB_ext _ _) E4) ?_;refine R3 ?_;exact E5 rfl (A7 rfl m9)
theorem Cu4 (s : Str) (c : UInt8) : F6 138 [AV.str s, AV.byte c] (AV.int (BR7 s c)) := by
  refine B8 Tryz.func138 rfl Tryz.ntmps138 rfl ?_;refine R8 ?_;refine A1 rfl (A9 rfl Tryz.call159 rfl (Cm1 _ _) E4) ?_;refine R3 ?_;exact E5 rfl (A7 rfl m9)
theorem CD8 (s o : Str) (hs : s.length ≤ 4611686018427387904) : F6 111 [AV.str s, AV.str o] (AV.bool (hasB s o)) := by
 refine B8 Tryz.func111 rfl Tryz.ntmps111 rfl ?_;refine R12 ?_;refine E9 [(0, _), (1, _), (7, _)] _ (fun (i : Nat) => i ≤ s.length ∧ hasB s o = hasB (s.drop i) o) (fun i => []) (fun i => [(8, AV.int i)]) (fun i => s.length - i) (0) ?_ (F5 A5) ?_
 ·exact ⟨D6 _, rfl⟩
 intro i hinv;refine R5 ?_;refine A2 ?_ ?_
 ·intro h9;have k9 := C6 h9;have hlt : i < s.length := by have := AA2 h9; omega
  obtain ⟨c, hc⟩ := B3 hlt;refine R12 ?_;refine A1 rfl (AT5 rfl M2 (A0 rfl) (A0 rfl) qz3 AQ3) ?_;refine A1 rfl (A9 rfl Tryz.call137 rfl (Ca5 _) L2) ?_;refine R5 ?_;refine N4 rfl (fun hc => AT5 rfl M2 (A8 rfl hc) (A8 rfl hc) qz6 AQ3) ?_;refine N4 rfl (fun hc => A9 rfl Tryz.call138 rfl (Cu4 _ _) (A3 (A8 rfl hc) (A3 (A8 rfl hc) B2))) ?_;refine R3 ?_;refine A2 ?_ ?_
  ·intro h23;have hfin : hasB s o = false := by rw [hinv.2, J2 hc, CB4, h23]; rfl
   refine R5 ?_;exact E5 rfl (A7 rfl (by first | exact D7 AV.bool hfin.symm | exact D7 AV.bool BT8))
  intro h23;refine R5 ?_;refine F7 i (i + 1) ?_ ?_ (F5 A5)
  ·exact ⟨by omega, by rw [hinv.2, J2 hc, CB4, h23]; rfl⟩
  omega
 intro h9;have k9 := C2 h9;have hge : s.length ≤ i := by have := Ay0 h9; omega
 refine R6 ?_;exact E5 rfl (A7 rfl (by first | exact D7 AV.bool hfin.symm | exact D7 AV.bool BT8))
theorem BX4 (s o : Str) (hs : s.length ≤ 4611686018427387904) (ho : o.length ≤ 4611686018427387904) : F6 117 [AV.str s, AV.str o] (AV.bool (AQ1 s o)) := by
 refine B8 Tryz.func117 rfl Tryz.ntmps117 rfl ?_;refine R10 ?_;refine E9 [(0, _), (1, _)] _ (fun (i : Nat) => i ≤ s.length ∧ AQ1 s o = AQ1 (s.drop i) o) (fun i => []) (fun i => [(5, AV.int i)]) (fun i => s.length - i) (0) ?_ (F5 A5) ?_
 ·exact ⟨D6 _, rfl⟩
 intro i hinv;have hinv0 := hinv; clear hinv;refine R8 ?_;refine A2 ?_ ?_
 ·intro h11;have k11 := C6 h11;have hlt : i < s.length := by have := AA2 h11; omega
  obtain ⟨c, hc⟩ := B3 hlt;refine R7 ?_;refine A1 rfl (AT5 rfl M2 (A0 rfl) (A0 rfl) qz3 AQ3) ?_;refine R4 ?_;refine N4 rfl (fun hc => AT5 rfl M2 (A8 rfl hc) (A8 rfl hc) qz6 AQ3) ?_;refine R5 ?_;refine W9 rfl (fun hc => AT5 rfl M2 (A8 rfl hc) (A8 rfl hc) qz6 AQ3) ?_;refine R4 ?_;refine AE8 rfl rfl (i7 rfl rfl rfl) (fun hc => AT5 rfl M2 (A8 rfl hc) (A8 rfl hc) qz6 AQ3) ?_;refine R11 ?_;refine K3 [(0, _), (1, _), (5, _), (8, _), (9, _), (10, _), (11, _), (14, _), (15, _), (16, _), (17, _), (18, _), (23, _), (24, _), (35, _)] _ (fun (k : Nat) (b : Bool) => k ≤ o.length ∧ (Ag5 c || o.any fun d => ((c.toNat : Int) == (d.toNat : Int))) = (b || (o.drop k).any fun d => ((c.toNat : Int) == (d.toNat : Int)))) (fun k b => []) (fun k b => [(6, AV.bool b), (7, AV.int k)]) (fun k b => o.length - k) (0) (Ag5 c) ?_ (F5 A5) ?_
  ·exact ⟨D6 _, rfl⟩
  intro k b hinv;refine R8 ?_;refine A2 ?_ ?_
  ·intro h39;have k39 := C6 h39;have hlt2 : k < o.length := by have := AA2 h39; omega
   obtain ⟨d, hd⟩ := B3 hlt2;refine R8 ?_;refine O6 rfl (j5 rfl rfl rfl) (fun hc => AT5 rfl M2 (A8 rfl hc) (A8 rfl hc) qz6 AQ3) ?_;refine R2 ?_;refine O6 rfl (j5 rfl rfl rfl) (fun hc => AT5 rfl M2 (A8 rfl hc) (A8 rfl hc) qz6 AQ3) ?_;refine R9 ?_;refine G8 k b (k + 1) ((b || ((c.toNat : Int) == (d.toNat : Int)))) ?_ ?_ (F5 A5)
   ·exact ⟨by omega, by rw [hinv.2, J2 hd, AX4, Bool.or_assoc]⟩
   omega
  intro h39;have k39 := C2 h39;have hge2 : o.length ≤ k := by have := Ay0 h39; omega
  have hg : (Ag5 c || o.any fun d => ((c.toNat : Int) == (d.toNat : Int))) = b := by rw [hinv.2, l6 hge2]; simp
  refine R6 ?_;refine A2 ?_ ?_
  ·intro h53;have hfin : AQ1 s o = false := by rw [hinv0.2, J2 hc, BV7, hg]; cases b <;> simp_all
   refine R5 ?_;exact E5 rfl (A7 rfl qz168)
  intro h53;have hb : b = true := by cases b <;> simp_all
  refine R6 ?_;refine F7 i (i + 1) ?_ ?_ (F5 A5)
  ·exact ⟨by omega, by rw [hinv0.2, J2 hc, BV7, hg, hb]; rfl⟩
  omega
 intro h11;have k11 := C2 h11;have hge : s.length ≤ i := by have := Ay0 h11; omega
 refine R6 ?_;exact E5 rfl (A7 rfl qz168)
theorem BX5 (s : Str) (hs : s.length ≤ 4611686018427387904) : F6 87 [AV.str s] (AV.bool (r7 s)) := by
  refine B8 Tryz.func87 rfl Tryz.ntmps87 rfl ?_;refine R8 ?_;refine A1 rfl (A9 rfl Tryz.call46 rfl (AY9 _ _ _) Aa2) ?_;refine R2 ?_;refine N4 rfl (fun hc => A9 rfl Tryz.call111 rfl (CD8 _ _ qz8) (A3 (A8 rfl hc) (A3 (N9 (l := [46, 47]) rfl) B2))) ?_;refine R4 ?_;exact E5 rfl (A7 rfl m9)
theorem CT2 (s : Str) (hs : s.length ≤ 4611686018427387904) : F6 112 [AV.str s] (AV.bool (AZ2 s)) := by
  refine B8 Tryz.func112 rfl Tryz.ntmps112 rfl ?_;refine R11 ?_;refine N4 rfl (fun hc => A9 rfl Tryz.call111 rfl (CD8 _ _ qz8) (A3 (A8 rfl hc) (A3 (N9 (l := [46, 45, 44, 95]) rfl) B2))) ?_;refine R4 ?_;exact E5 rfl (A7 rfl m9)
theorem AW6 (s : Str) (hs : s.length ≤ 4611686018427387904) : F6 95 [AV.str s] (AV.bool (m7 s)) := by
  refine B8 Tryz.func95 rfl Tryz.ntmps95 rfl ?_;refine R8 ?_;refine A1 rfl (A9 rfl Tryz.call60 rfl (Q3 _ _ _) Aa2) ?_;refine R2 ?_;refine N4 rfl (fun hc => A9 rfl Tryz.call117 rfl (BX4 _ _ qz8 D5) (A3 (A8 rfl hc) (A3 (N9 (l := [46, 47]) rfl) B2))) ?_;refine R4 ?_;exact E5 rfl (A7 rfl m9)
theorem Bd1 {p : Prop} (h : p := by
 refine B8 CM3 rfl CM4 rfl ?_;refine W4 (t := 0) rfl fun hl => ?_;try simp only [A6] at hl
 refine R12 ?_;refine E9 [(0, _), (1, _), (7, _)] _ (fun (i : Nat) => i ≤ l.length ∧ idxFrom f l 0 = idxFrom f (l.drop i) i) (fun i => []) (fun i => [(8, AV.int i)]) (fun i => l.length - i) (0) ?_ (F5 A5) ?_
 ·exact ⟨D6 _, rfl⟩
 intro i hinv;refine R5 ?_;refine A2 ?_ ?_
 ·intro h9;have k9 := C6 h9;have hlt : i < l.length := by omega
  obtain ⟨x, hx⟩ := B3 hlt;refine R13 ?_;refine A1 rfl (C7 rfl CM5 CM6 (A0 rfl) (A0 rfl) hx qz3) ?_;refine R1 ?_;refine A1 rfl (CO4 rfl (A0 rfl) x (hp x (C3 hx)) (A0 rfl)) ?_;refine R1 ?_;refine A2 ?_ ?_
  ·intro h16;refine R6 ?_;exact E5 rfl (A7 rfl qz69)
  intro h16;refine R5 ?_;refine F7 i (i + 1) ?_ ?_ (F5 A5)
  ·exact ⟨by omega, by rw [hinv.2, J2 hx, idxFrom, h16]; simp⟩
  omega
 intro h9;have k9 := C2 h9;have hge : l.length ≤ i := by omega
 refine R6 ?_;exact E5 rfl (A7 rfl qz69)) : p := h
namespace tw0n0
def CM3 := @Tryz.func78
def CM4 := @Tryz.ntmps78
def CM5 := @Tryz.underlying32
def CM6 := @Tryz.sizeOf69
end tw0n0
open tw0n0 in
theorem Ap0 (l : List A4) (pre : A4 → Prop) (f : A4 → Bool) (hp : ∀ x ∈ l, pre x) : F6 78 [AV.list 3 (l.map A4.cs), AV.fun1 Tryz.prog pre (fun a => AV.agg a.cs) (fun a => AV.bool (f a))] (AV.int (idxFrom f l 0)) := Bd1
theorem Bd2 {p : Prop} (h : p := by
  refine B8 CM7 rfl CM8 rfl ?_;refine R8 ?_;refine A1 rfl (A9 rfl CM9 rfl (CN0 l pre f qz89) E4) ?_;refine R4 ?_;exact E5 rfl (A7 rfl (by exact D7 AV.bool (BG6 f l 0 (Int.le_refl 0))))) : p := h
namespace tw1n0
def CM7 := @Tryz.func92
def CM8 := @Tryz.ntmps92
def CM9 := @Tryz.call78
def CN0 := @Ap0
end tw1n0
open tw1n0 in
theorem BG9 (l : List A4) (pre : A4 → Prop) (f : A4 → Bool) (hp : ∀ x ∈ l, pre x) : F6 92 [AV.list 3 (l.map A4.cs), AV.fun1 Tryz.prog pre (fun a => AV.agg a.cs) (fun a => AV.bool (f a))] (AV.bool (l.any f)) := Bd2
namespace tw0n1
def CM3 := @Tryz.func75
def CM4 := @Tryz.ntmps75
def CM5 := @Tryz.underlying49
def CM6 := @Tryz.sizeOf80
end tw0n1
open tw0n1 in
theorem Be6 (l : List H4) (pre : H4 → Prop) (f : H4 → Bool) (hp : ∀ x ∈ l, pre x) : F6 75 [AV.list 3 (l.map H4.cs), AV.fun1 Tryz.prog pre (fun a => AV.agg a.cs) (fun a => AV.bool (f a))] (AV.int (idxFrom f l 0)) := Bd1
namespace tw1n1
def CM7 := @Tryz.func49
def CM8 := @Tryz.ntmps49
def CM9 := @Tryz.call75
def CN0 := @Be6
end tw1n1
open tw1n1 in
theorem An1 (l : List H4) (pre : H4 → Prop) (f : H4 → Bool) (hp : ∀ x ∈ l, pre x) : F6 49 [AV.list 3 (l.map H4.cs), AV.fun1 Tryz.prog pre (fun a => AV.agg a.cs) (fun a => AV.bool (f a))] (AV.bool (l.any f)) := Bd2
namespace tw0n2
def CM3 := @Tryz.func66
def CM4 := @Tryz.ntmps66
def CM5 := @Tryz.underlying24
def CM6 := @Tryz.sizeOf51
end tw0n2
open tw0n2 in
theorem BX6 (l : List B4) (pre : B4 → Prop) (f : B4 → Bool) (hp : ∀ x ∈ l, pre x) : F6 66 [AV.list 8 (l.map B4.cs), AV.fun1 Tryz.prog pre (fun a => AV.agg a.cs) (fun a => AV.bool (f a))] (AV.int (idxFrom f l 0)) := Bd1
namespace tw1n2
def CM7 := @Tryz.func39
def CM8 := @Tryz.ntmps39
def CM9 := @Tryz.call66
def CN0 := @BX6
end tw1n2
open tw1n2 in
theorem BJ7 (l : List B4) (pre : B4 → Prop) (f : B4 → Bool) (hp : ∀ x ∈ l, pre x) : F6 39 [AV.list 8 (l.map B4.cs), AV.fun1 Tryz.prog pre (fun a => AV.agg a.cs) (fun a => AV.bool (f a))] (AV.bool (l.any f)) := Bd2
namespace tw0n3
def CM3 := @Tryz.func79
def CM4 := @Tryz.ntmps79
def CM5 := @Tryz.underlying26
def CM6 := @Tryz.sizeOf3
end tw0n3
open tw0n3 in
theorem Be7 (l : List Int) (pre : Int → Prop) (f : Int → Bool) (hp : ∀ x ∈ l, pre x) : F6 79 [ints l, AV.fun1 Tryz.prog pre (fun a => AV.int a) (fun a => AV.bool (f a))] (AV.int (idxFrom f l 0)) := Bd1
namespace tw1n3
def CM7 := @Tryz.func56
def CM8 := @Tryz.ntmps56
def CM9 := @Tryz.call79
def CN0 := @Be7
end tw1n3
open tw1n3 in
theorem BQ1 (l : List Int) (pre : Int → Prop) (f : Int → Bool) (hp : ∀ x ∈ l, pre x) : F6 56 [ints l, AV.fun1 Tryz.prog pre (fun a => AV.int a) (fun a => AV.bool (f a))] (AV.bool (l.any f)) := Bd2
theorem BH0 (l : List A4) (v : Str) (pre : A4 → Str → Prop) (hp : ∀ x ∈ l, pre x v) (f : A4 → Str → Int) (hl2 : l.length ≤ 4611686018427387903) : F6 97 [AV.list 3 (l.map A4.cs), AV.str v, AV.fun2 Tryz.prog pre (fun a => AV.agg a.cs) (fun b => AV.str b) (fun a b => AV.int (f a b))] (AV.tup [AV.int (bs (fun x => f x v) l 0 l.length), AV.bool (Bz6 (fun x => f x v) l (bs (fun x => f x v) l 0 l.length))]) := by
 refine B8 Tryz.func97 rfl Tryz.ntmps97 rfl ?_;refine W4 (t := 0) rfl fun hl => ?_;try simp only [A6] at hl
 refine R19 ?_;refine K3 [(0, _), (1, _), (2, _), (6, _), (7, _), (8, _)] _ (fun (i : Nat) (j : Nat) => i ≤ j ∧ j ≤ l.length ∧ bs (fun x => f x v) l 0 l.length = bs (fun x => f x v) l i j) (fun i j => []) (fun i j => [(9, AV.int i), (10, AV.int j)]) (fun i j => j - i) (0) ((l.map A4.cs).length) ?_ (F5 A5) ?_
 ·exact ⟨D6 _, by simp, by simp⟩
 intro i j hinv;refine R7 ?_;refine A2 ?_ ?_
 ·intro h17;have k17 := C6 h17;have hlt : i < j := by omega
  obtain ⟨x, hx⟩ := B3 (show (i + j) / 2 < l.length by omega);refine R6 ?_;refine A1 rfl (BI5 rfl (A0 rfl) (A0 rfl) qz8) ?_;refine A1 rfl (Af5 rfl E3 Tryz.underlying148 (A0 rfl)) ?_;refine A1 rfl (CL7 rfl (A0 rfl) I7 D5 D5) ?_;refine A1 rfl (Af5 rfl E3 i6 (A0 rfl)) ?_;refine R4 ?_;rw [half_eq qz8];refine R3 ?_;refine A1 rfl (C7 rfl C0 F2 (A0 rfl) (A0 rfl) hx qz3) ?_;refine R2 ?_;refine A1 rfl (CO5 rfl (A0 rfl) x v (hp x (C3 hx)) (A0 rfl) (A0 rfl)) ?_;refine R2 ?_;refine A2 ?_ ?_
  ·intro h31;have k31 := C6 h31;refine R5 ?_;refine Ab1 ?_;refine G8 i j ((i + j) / 2 + 1) (j) ?_ ?_ (F5 A5)
   ·exact ⟨by omega, by omega, by rw [hinv.2.2, bs_lo hlt hx k31]⟩
   omega
  intro h31;have k31 := C2 h31;refine R4 ?_;refine Ab1 ?_;refine G8 i j (i) ((i + j) / 2) ?_ ?_ (F5 A5)
  ·exact ⟨by omega, by omega, by rw [hinv.2.2, bs_hi hlt hx k31]⟩
  omega
 intro h17;have k17 := C2 h17;have hge : bs (fun x => f x v) l 0 l.length = i := by rw [hinv.2.2, CP9 qz8]
 obtain ⟨y, hy⟩ := Ap6 l i;refine R11 ?_;refine N4 rfl (fun hc => C7 rfl C0 F2 (A8 rfl hc) (A8 rfl hc) (hy qz6) rfl) ?_;refine R2 ?_;refine N4 rfl (fun hc => CO5 rfl (A8 rfl hc) y v (hp y (C3 (hy qz6))) (A8 rfl hc) (A8 rfl hc)) ?_;refine R6 ?_;exact X5 rfl D5 (H7 (A7 rfl qz85) (H7 (A7 rfl qz85) l9))
theorem CH9 (l : List Int) (v : Int) : F6 74 [ints l, AV.int v] (AV.int (idxFrom (fun x => v == x) l 0)) := by
 refine B8 Tryz.func74 rfl Tryz.ntmps74 rfl ?_;refine W4 (t := 0) rfl fun hl => ?_;try simp only [A6] at hl
 refine R12 ?_;refine E9 [(0, _), (1, _), (7, _)] _ (fun (i : Nat) => i ≤ l.length ∧ idxFrom (fun x => v == x) l 0 = idxFrom (fun x => v == x) (l.drop i) i) (fun i => []) (fun i => [(8, AV.int i)]) (fun i => l.length - i) (0) ?_ (F5 A5) ?_
 ·exact ⟨D6 _, rfl⟩
 intro i hinv;refine R5 ?_;refine A2 ?_ ?_
 ·intro h9;have k9 := C6 h9;have hlt : i < l.length := by omega
  obtain ⟨x, hx⟩ := B3 hlt;refine R13 ?_;refine A1 rfl (C7 rfl C9 D0 (A0 rfl) (A0 rfl) hx qz3) ?_;refine R3 ?_;refine A2 ?_ ?_
  ·intro h16;refine R6 ?_;exact E5 rfl (A7 rfl qz69)
  intro h16;refine R5 ?_;refine F7 i (i + 1) ?_ ?_ (F5 A5)
  ·exact ⟨by omega, by rw [hinv.2, J2 hx, idxFrom, h16]; simp⟩
  omega
 intro h9;have k9 := C2 h9;have hge : l.length ≤ i := by omega
 refine R6 ?_;exact E5 rfl (A7 rfl qz69)
theorem Bk9 (l : List Int) (v : Int) : F6 47 [ints l, AV.int v] (AV.bool (l.any fun x => v == x)) := by
  refine B8 Tryz.func47 rfl Tryz.ntmps47 rfl ?_;refine R8 ?_;refine A1 rfl (A9 rfl Tryz.call74 rfl (CH9 _ _) E4) ?_;refine R4 ?_;exact E5 rfl (A7 rfl (by exact D7 AV.bool (BG6 (fun x => v == x) l 0 (Int.le_refl 0))))
theorem Bp3 (l : List A4) (hl : l.length ≤ 4194304) : M7 52 [AV.list 3 (l.map A4.cs)] [] (fun _ : Value => True) (fun v => [.arr v 69 3 (l.map A4.cs)]) (fun v => AV.is v) := by
 refine C5 Tryz.func52 rfl Tryz.ntmps52 rfl ?_;refine CZ5 0 rfl ?_ ?_
 ·intro hnil;have hn : l = [] := by cases l with | nil => rfl | cons x l => simp at hnil
  subst hn;refine R2 ?_;refine T6 69 3 rfl rfl rfl rfl H3 ?_;intro v2;refine R5 ?_;refine A1 rfl (w_eqnil rfl C0 (A0 rfl)) ?_;refine R1 ?_;refine A2 ?_ ?_
  ·intro h4;refine R2 ?_;refine T6 69 3 rfl rfl rfl rfl H3 ?_;intro v2;refine R2 ?_;exact I2 [0] v2 (trivial) rfl B7 (N6 rfl (A7 rfl m9))
  intro h4
  cases h4
 skip
 refine R2 ?_;refine T6 69 3 rfl rfl rfl rfl H3 ?_;intro v2;refine R5 ?_;refine A1 rfl (w_eqnnl rfl C0 (A0 rfl)) ?_;refine R1 ?_;refine A2 ?_ ?_
 ·intro h4
  cases h4
 intro h4;refine R3 ?_;refine S9 rfl rfl rfl rfl C0 F2 ?_;intro v5;refine R1 ?_;refine H0 (by' := 40) 0 rfl rfl rfl rfl C0 Tryz.type69 rfl rfl rfl rfl rfl rfl (A0 rfl) (AQ5 (A0 rfl) nnl_list) rfl qz3 ?_;intro v7_1;refine R3 ?_;exact I2 [0] v7_1 (trivial) rfl B7 (N6 rfl (A7 rfl m9))
theorem BT6 (v : Value) (l : List A4) (pre : A4 → Prop) (f : A4 → Bool) (hp : ∀ x ∈ l, pre x) (hl : l.length ≤ 4194304) : M7 54 [AV.is v, AV.fun1 Tryz.prog pre (fun a => AV.agg a.cs) (fun a => AV.bool (f a))] [.arr v 69 3 (l.map A4.cs)] (fun _ : Value => True) (fun v => [.arr v 69 3 ((l.filter fun x => !f x).map A4.cs)]) (fun v => AV.is v) := by
 refine C5 Tryz.func54 rfl Tryz.ntmps54 rfl ?_;refine R2 ?_;refine A1 rfl (D8 rfl H3) ?_;refine R5 ?_;refine A1 rfl (Ak0 rfl Tryz.call78 rfl (Ap0 _ _ _ qz89) (r5 _ _) (Z0 (Ay9 0 (A0 rfl) rfl) (Z0 (evb (A0 rfl)) AI5))) ?_;refine R8 ?_;refine A2 ?_ ?_
 ·intro h12;have k12 := K6 h12;(try simp only [A6] at k12);have hall : l.filter (fun x => !f x) = l := by rcases BA7 f l 0 with h | ⟨n, x, h1, _⟩; exact h.2; (exfalso; have := k12; rw [show ((0 : Nat) : Int) = 0 from rfl] at h1; omega)
  refine R6 ?_;exact I2 [0] v (trivial) rfl qz120 (N6 rfl (A7 rfl m9))
 intro h12;have k12 := J4 h12;(try simp only [A6] at k12);obtain ⟨n, x0, hn, hx0, htk⟩ : ∃ (n : Nat) (x : A4), idxFrom f l 0 = (n : Int) ∧ l[n]? = some x ∧ l.take n = (l.take (n + 1)).filter (fun x => !f x) := by rcases BA7 f l 0 with h | ⟨n, x, h1, h2, h3⟩; exact absurd h.1 k12; exact ⟨n, x, by rw [show ((0 : Nat) : Int) = 0 from rfl] at h1; omega, h2, h3⟩
 rw [hn];have hnl : n < l.length := (F4.1 hx0).1;refine R9 ?_;refine V5 [(0, _), (1, _), (4, _)] _ (fun (i : Nat) (j : Nat) (m : List A4) => i < j ∧ j ≤ l.length ∧ m.length = l.length ∧ m.take i = (l.take j).filter (fun x => !f x) ∧ m.drop j = l.drop j) (fun i j m => [.arr v 69 3 (m.map A4.cs)]) (fun i j m => [(5, AV.int i), (6, AV.int j)]) (fun i j m => l.length - j) (n) (n + 1) (l) ?_ (I6 B7 A5) ?_
 ·exact ⟨by omega, by omega, rfl, htk, rfl⟩
 intro i j m hinv;refine R8 ?_;refine A2 ?_ ?_
 ·intro h19;have k19 := C6 h19;have hlt : j < l.length := by omega
  obtain ⟨x, hx⟩ := B3 hlt;have hmx := CZ9 hinv.2.2.2.2 hx;refine R7 ?_;refine A1 rfl (H6 0 rfl C0 F2 (A0 rfl) rfl (A0 rfl) qz8 AG1) ?_;refine A1 rfl (n2 0 rfl (A0 rfl) rfl Tryz.isAgg69 F2 (by simp only [AC6, Y6, hmx, AB2]; rfl) D5) ?_;refine R1 ?_;intro b7;refine R6 ?_;refine A1 rfl (CO4 rfl (A0 rfl) x (hp x (C3 hx)) (A0 rfl)) ?_;refine R2 ?_;refine A2 ?_ ?_
  ·intro h29;refine R5 ?_;refine A1 rfl (H6 1 rfl C0 F2 (A0 rfl) rfl (A0 rfl) qz8 AG1) ?_;refine m4 1 rfl rfl rfl (A0 rfl) (A0 rfl) (m3 _) rfl F2 rfl CL2 ?_;refine R11 ?_;refine P2 i j m (i + 1) (j + 1) (m.set i x) ?_ ?_ (E8 1 (by first | exact D7 (fun z => [Own.arr v 69 3 z]) (AF6).symm | rfl) A5)
   ·(have hd := del_keep (p := fun x => !f x) hinv.2.2.1 qz8 hx hinv.2.2.2.1 hinv.2.2.2.2 h29; exact ⟨by omega, by omega, hd.2.2, hd.1, hd.2.1⟩)
   omega
  intro h29;refine R6 ?_;refine P2 i j m (i) (j + 1) (m) ?_ ?_ (E8 1 (by first | exact D7 (fun z => [Own.arr v 69 3 z]) (AF6).symm | rfl) A5)
  ·(have hd := del_skip (p := fun x => !f x) hx hinv.2.2.2.1 hinv.2.2.2.2 h29; exact ⟨by omega, by omega, hinv.2.2.1, hd.1, hd.2⟩)
  omega
 intro h19;have k19 := C2 h19;have hge : l.length ≤ j := by omega
 refine R5 ?_;refine A1 rfl (CL8 0 rfl C0 F2 (A0 rfl) rfl (A0 rfl) qz8 AG1) ?_;refine Cr4 0 rfl rfl rfl C0 Tryz.zeroValue69 rfl rfl D5 (A0 rfl) rfl CL2 ?_;refine R5 ?_;refine CP1 0 rfl rfl rfl rfl C0 F2 (A0 rfl) rfl (A0 rfl) qz8 (by simp only [A6, G3, I5, AX3]; omega) ?_;intro v41_1;refine R3 ?_;exact I2 [0] v41_1 (trivial) rfl qz120 (N6 rfl (A7 rfl m9))
theorem Bp4 (v vv : Value) (l : List A4) (x : A4) (i : Nat) (hi : i ≤ l.length) (hl : l.length ≤ 4194304) : M7 77 [AV.is v, AV.int i, AV.is vv] [.arr v 69 3 (l.map A4.cs), .arr vv 69 3 [A4.cs x]] (fun _ : Value => True) (fun v => [.arr v 69 3 ((l.take i ++ x :: l.drop i).map A4.cs)]) (fun v => AV.is v) := by
 have hn : (l.map A4.cs).length = l.length := A6 _;have h1 : ([A4.cs x] : List (List AV)).length = 1 := rfl;have e28 : ((l.map A4.cs).length : Int) + (([A4.cs x] : List (List AV)).length : Int) = ((l.length + 1 : Nat) : Int) := by rw [hn, h1]; rfl
 have e49 : (i : Int) + (([A4.cs x] : List (List AV)).length : Int) = ((i + 1 : Nat) : Int) := by rw [h1]; rfl
 have e39 : ((l.length + 1 : Nat) : Int) - (i : Int) = ((l.length + 1 - i : Nat) : Int) := by omega
 refine C5 Tryz.func77 rfl Tryz.ntmps77 rfl ?_;refine Bj4 0 rfl ?_ ?_
 ·intro hv hes; subst hv;have hl0 : l = [] := by cases l with | nil => rfl | cons y l => (simp at hes)
  subst hl0;have hi0 : i = 0 := by simpa using hi
  subst hi0;refine Bj4 1 rfl (fun _ h => by cases h) ?_;intro gv cv hvv _ _;subst hvv;refine R2 ?_;refine A1 rfl (D8 rfl H3) ?_;refine R5 ?_;refine A1 rfl (CL8 0 rfl C0 F2 (A0 rfl) rfl (A0 rfl) qz3 qz3) ?_;refine R4 ?_;refine A1 rfl (CP3 rfl C0 (A0 rfl)) ?_;refine R8 ?_;refine A2 ?_ ?_
  ·intro h16;have k16 := K6 h16;(try simp only [A6] at k16);rw [h1] at k16; omega
  intro h16;have k16 := J4 h16;(try simp only [A6] at k16);refine R14 ?_;refine A2 ?_ ?_
  ·intro h22;have k22 := K6 h22;(try simp only [A6] at k22);refine R4 ?_;refine Bn4 (by' := 40) 0 rfl rfl rfl rfl C0 Tryz.type69 rfl rfl rfl rfl rfl rfl (A0 rfl) (BN8 1 rfl (A0 rfl)) Y2 rfl (by simp only [A6, H1, P6]; omega) ?_;intro v25;refine R3 ?_;exact I2 [0] v25 (trivial) rfl qz53 (N6 rfl (A7 rfl (by first | rfl | (rw [hn]))))
  intro h22;have k22 := J4 h22;(try simp only [A6] at k22);exact absurd rfl k22
 intro g cap hv hlc hcm; subst hv;refine Bj4 1 rfl (fun _ h => by cases h) ?_;intro gv cv hvv _ _;subst hvv;refine R2 ?_;refine A1 rfl (D8 rfl H3) ?_;refine R5 ?_;refine A1 rfl (BD8 rfl C0 F2 (A0 rfl) (A0 rfl) qz3 qz3) ?_;refine R4 ?_;refine A1 rfl (CP3 rfl C0 (A0 rfl)) ?_;refine R8 ?_;refine A2 ?_ ?_
 ·intro h16;have k16 := K6 h16;(try simp only [A6] at k16);rw [h1] at k16; omega
 intro h16;have k16 := J4 h16;(try simp only [A6] at k16);refine R4 ?_;refine A1 rfl (CP3 rfl C0 (A0 rfl)) ?_;refine R9 ?_;refine A2 ?_ ?_
 ·intro h22;have k22 := K6 h22;(try simp only [A6] at k22);refine R4 ?_;refine Bn4 (by' := 40) 0 rfl rfl rfl rfl C0 Tryz.type69 rfl rfl rfl rfl rfl rfl (A0 rfl) (BN8 1 rfl (A0 rfl)) Y2 rfl (by simp only [A6, H1, P6]; omega) ?_;intro v25;refine R3 ?_;exact I2 [0] v25 (trivial) rfl qz53 (N6 rfl (A7 rfl (by first | rfl | (rw [hn]))))
 intro h22;have k22 := J4 h22;(try simp only [A6] at k22);refine R7 ?_;rw [e28];refine R1 ?_;refine A1 rfl (w_vcap rfl C0 (A0 rfl)) ?_;refine R2 ?_;refine A2 ?_ ?_
 ·intro h31;have k31 := C6 h31;refine R4 ?_;refine A1 rfl (w_vhi rfl C0 F2 (A0 rfl) (A0 rfl) qz8 (by rw [hn] at hlc; omega)) ?_;refine R3 ?_;rw [e28];refine R2 ?_;rw [e39, AC6];refine Cj8 (by' := 40) (j := i) (m := l.length + 1 - i) 0 rfl rfl rfl rfl C0 i6 Tryz.type69 rfl rfl rfl rfl rfl rfl (A0 rfl) (A0 rfl) rfl (by rw [hn]; exact hi) qz8 qz8 qz8 qz8 ?_;intro g2 cap2 hcap2;refine R6 ?_;refine A1 rfl (BD8 rfl C0 F2 (A0 rfl) (A0 rfl) qz3 qz3) ?_;refine R1 ?_;rw [AC6];refine Bw4 (k := i) 0 rfl rfl rfl rfl C0 Tryz.type69 rfl (A0 rfl) (BN8 2 rfl (A0 rfl)) rfl (by rw [h1]; omega) (by rw [h1]; omega) hcap2 Y2 ?_;refine R2 ?_;refine O7 8 E3 E3 rfl ?_;refine R4 ?_;rw [e49];refine C1 rfl rfl (BD8 rfl C0 F2 (A0 rfl) (A0 rfl) qz3 qz3) ?_;refine R2 ?_;refine C1 rfl rfl (BD8 rfl C0 F2 (A0 rfl) (A0 rfl) qz3 qz3) ?_;refine R1 ?_;simp only [AC6];refine Bw4 (k := i + 1) 0 rfl rfl rfl rfl C0 Tryz.type69 rfl (A0 rfl) (Cf3 1 rfl (A0 rfl)) rfl (by rw [w4, hn]; omega) (by rw [w4, hn]; omega) hcap2 (by intro h; have := D7 List.length h; rw [w4, hn] at this; simp at this; omega) ?_;refine R7 ?_;exact I2 [0] (slv g2 (i + (l.length + 1 - i)) cap2) (trivial) rfl qz53 (N6 rfl (A7 rfl (by first | rfl | (rw [hn]))))
 intro h31;have k31 := C2 h31;refine R7 ?_;rw [e28];refine A1 rfl (w_vhi rfl C0 F2 (A0 rfl) (A0 rfl) qz3 qz3) ?_;rw [AC6];refine R10 ?_;rw [e49];refine A1 rfl (BD8 rfl C0 F2 (A0 rfl) (A0 rfl) qz3 qz3) ?_;rw [AC6];refine A1 rfl (CZ7 (tb := 4) 1 0 rfl Tryz.func100 E3 E3 E3 E3 C0 F2 (A0 rfl) (A0 rfl) rfl rfl rfl qz8 rfl) ?_;refine R2 ?_;refine A2 ?_ ?_
 ·intro h68;refine R1 ?_;refine O7 8 E3 E3 rfl ?_;refine R4 ?_;rw [e49];refine C1 rfl rfl (BD8 rfl C0 F2 (A0 rfl) (A0 rfl) qz3 qz3) ?_;refine R2 ?_;refine C1 rfl rfl (BD8 rfl C0 F2 (A0 rfl) (A0 rfl) qz3 qz3) ?_;refine R1 ?_;simp only [AC6];refine sq_shift (k := i) (len := (l.map A4.cs).length) 0 rfl rfl rfl rfl C0 Tryz.type69 rfl (by rw [hn]; exact A0 rfl) (by rw [hn]; exact A0 rfl) rfl qz8 qz8 ?_;intro j77;refine R5 ?_;refine A1 rfl (BD8 rfl C0 F2 (A0 rfl) (A0 rfl) qz3 qz3) ?_;refine R1 ?_;rw [AC6];refine Bw4 (k := i) 0 rfl rfl rfl rfl C0 Tryz.type69 rfl (A0 rfl) (BN8 1 rfl (A0 rfl)) rfl (by rw [h1, hn]; omega) (by rw [h1]; omega) qz8 Y2 ?_;refine R7 ?_;exact I2 [0] (slv g ((l.map A4.cs).length + 1) cap) (trivial) rfl qz53 (N6 rfl (A7 rfl (by first | rfl | (rw [hn]))))
 intro h68
 cases h68
end Go.PQ
namespace Go.PQ
open Go.Proofs
open Go Go.AV Go.M
attribute [local irreducible] OpW OpA OpS AWP J3 K8 J6 J9 Le Ev F8
theorem BS6 (s : Str) (g : Bool) (hs : s.length ≤ 4611686018427387904) : F6 88 [AV.str s, AV.bool g] (AV.bool (AI7 s g)) := by
  refine B8 Tryz.func88 rfl Tryz.ntmps88 rfl ?_;refine R7 ?_;refine A1 rfl (A9 rfl Tryz.call112 rfl (CT2 _ qz8) (A3 (A0 rfl) B2)) ?_;refine R4 ?_;refine AE8 rfl rfl (i7 rfl rfl rfl) (fun hc => CO2 rfl (A8 rfl hc) (N9 (l := []) rfl)) ?_;refine R6 ?_;exact E5 rfl (A7 rfl m9)
theorem Ax3 (s : Str) (hs : s.length ≤ 4611686018427387904) : F6 96 [AV.str s] (AV.bool (AJ5 s)) := by
  refine B8 Tryz.func96 rfl Tryz.ntmps96 rfl ?_;refine R11 ?_;refine N4 rfl (fun hc => A9 rfl Tryz.call117 rfl (BX4 _ _ qz8 D5) (A3 (A8 rfl hc) (A3 (N9 (l := [46, 45, 44, 95]) rfl) B2))) ?_;refine R4 ?_;exact E5 rfl (A7 rfl m9)
theorem BX7 (k s : Str) (g : Bool) (hk : k.length ≤ 4611686018427387904) (hs : s.length ≤ 4611686018427387904) : F6 86 [AV.str k, AV.str s, AV.bool g] (AV.bool (Ae8 k s g)) := by
  refine B8 Tryz.func86 rfl Tryz.ntmps86 rfl ?_;refine R7 ?_;refine A1 rfl (A9 rfl Tryz.call95 rfl (AW6 _ qz8) (A3 (A0 rfl) B2)) ?_;refine R2 ?_;refine N4 rfl (fun hc => A9 rfl Tryz.call96 rfl (Ax3 _ qz8) (A3 (A8 rfl hc) B2)) ?_;refine R6 ?_;refine AE8 rfl rfl (BM4 rfl rfl rfl) (fun hc => Af6 rfl (A8 rfl hc) (N9 (l := []) rfl)) ?_;refine R5 ?_;exact E5 rfl (A7 rfl m9)
theorem BS7 (t : Str) : F6 118 [AV.str t] (AV.bool false) := by
  refine B8 Tryz.func118 rfl Tryz.ntmps118 rfl ?_;refine R12 ?_;exact E5 rfl (A7 rfl (by exact D7 AV.bool Y2))
theorem Ca6 (x y : Str) : F6 99 [AV.str x, AV.str y] (AV.int (BC2 x y)) := by
 refine B8 Tryz.func99 rfl Tryz.ntmps99 rfl ?_;refine R7 ?_;refine A1 rfl (A9 rfl Tryz.call118 rfl (BS7 _) L2) ?_;refine R5 ?_;refine A1 rfl (A9 rfl Tryz.call118 rfl (BS7 _) L2) ?_;refine R7 ?_;refine A2 ?_ ?_
 ·intro h11
  cases h11
 intro h11;refine R6 ?_;refine A2 ?_ ?_
 ·intro h13
  cases h13
 intro h13;refine R6 ?_;refine A1 rfl (w_slss rfl (A0 rfl) (A0 rfl)) ?_;refine R1 ?_;refine A2 ?_ ?_
 ·intro h16;refine R5 ?_;exact E5 rfl (A7 rfl qz129)
 intro h16;refine R6 ?_;refine A1 rfl (Bm6 rfl (A0 rfl) (A0 rfl)) ?_;refine R1 ?_;refine A2 ?_ ?_
 ·intro h19;refine R5 ?_;exact E5 rfl (A7 rfl qz129)
 intro h19;refine R6 ?_;exact E5 rfl (A7 rfl qz129)
theorem Cm2 {l : List A4} (h : D2 A4.size l ≤ 4194304) : ∀ k ∈ U0 l, k.length ≤ 4611686018427387904 := fun k hk => by
  obtain ⟨w, hw, rfl⟩ := n8.1 hk;have := BE2 (f := A4.size) hw;have h2 : w.size = w.Key.length + w.Val.length := rfl;omega
theorem Bx4 (l : List Str) (hs : ∀ k ∈ l, k.length ≤ 4611686018427387904) : F6 90 [strs l] (AV.bool (n7 l)) := by
 refine B8 Tryz.func90 rfl Tryz.ntmps90 rfl ?_;refine W4 (t := 0) rfl fun hl => ?_;try simp only [A6] at hl
 refine R12 ?_;refine E9 [(0, _), (5, _), (6, _)] _ (fun (i : Nat) => i ≤ l.length ∧ n7 l = ((l.drop i).all r7 && adj Op.bytesLess (l.drop (i - 1)))) (fun i => []) (fun i => [(7, AV.int i)]) (fun i => l.length - i) (0) ?_ (F5 A5) ?_
 ·exact ⟨D6 _, rfl⟩
 intro i hinv;refine R5 ?_;refine A2 ?_ ?_
 ·intro h8;have k8 := C6 h8;have hlt : i < l.length := by omega
  obtain ⟨x, hx⟩ := B3 hlt;obtain ⟨y, hy⟩ := B3 (show i - 1 < l.length by omega);have hsx := hs x (C3 hx);refine R6 ?_;refine A1 rfl (C7 rfl G9 M4 (A0 rfl) (A0 rfl) hx qz3) ?_;refine R7 ?_;refine A1 rfl (A9 rfl Tryz.call87 rfl (BX5 _ qz8) (A3 (A0 rfl) B2)) ?_;refine R9 ?_;refine AE8 rfl rfl (i7 rfl rfl rfl) (fun hc => C7 rfl G9 M4 (A8 rfl hc) (A8 rfl hc) hy qz6) ?_;refine R1 ?_;refine AE8 rfl rfl (i7 rfl rfl rfl) (fun hc => w_sleq rfl (A8 rfl hc) (A8 rfl hc)) ?_;refine R3 ?_;refine A2 ?_ ?_
  ·intro h27;have hfin : n7 l = false := by rw [hinv.2]; cases hg : r7 x with | false => (rw [BA9 hx hg]; simp) | true => (have hb : 0 < i ∧ Op.bytesLess y x = false := (by have := X9 y x; simp_all; try grind); rw [Ai9 hx hy hb.1 hb.2]; simp)
   refine R5 ?_;exact E5 rfl (A7 rfl qz158)
  intro h27;have hg : r7 x = true ∧ (0 < i → Op.bytesLess y x = true) := by have := X9 y x; simp_all
  refine R5 ?_;refine F7 i (i + 1) ?_ ?_ (F5 A5)
  ·exact ⟨by omega, by rw [hinv.2, BA8 hx hg.1, Ai8 hx hy hg.2]⟩
  omega
 intro h8;have k8 := C2 h8;have hge : l.length ≤ i := by omega
 refine R6 ?_;exact E5 rfl (A7 rfl qz158)
theorem Bx5 (l : List A4) (hs : D2 A4.size l ≤ 4194304) : F6 91 [AV.list 3 (l.map A4.cs)] (strs (U0 l)) := by
 have hl : l.length ≤ 4194304 := L4 P7 hs;refine B8 Tryz.func91 rfl Tryz.ntmps91 rfl ?_;refine R2 ?_;refine A1 rfl (D8 rfl (O2 (sz := 1))) ?_;refine R3 ?_;refine S9 rfl rfl rfl rfl G9 M4 ?_;intro v6;refine R10 ?_;refine K3 [(2, _), (7, _), (8, _)] _ (fun (i : Nat) (v : Value) => i ≤ l.length) (fun i v => [.arr v 9 1 ((l.take i).map fun w => [AV.str w.Key])]) (fun i v => [(3, AV.is v), (9, AV.int i)]) (fun i v => l.length - i) (0) (v6) ?_ (I6 B7 A5) ?_
 ·exact D6 _
 intro i v hinv;refine R5 ?_;refine A2 ?_ ?_
 ·intro h10;have k10 := C6 h10;have hlt : i < l.length := by omega
  obtain ⟨x, hx⟩ := B3 hlt;refine R5 ?_;refine A1 rfl (C7 rfl C0 F2 (A0 rfl) (A0 rfl) hx qz3) ?_;refine R2 ?_;intro b5;refine R7 ?_;refine H0 (by' := 16) 1 rfl rfl rfl rfl G9 Tryz.type9 rfl rfl rfl rfl rfl rfl (A0 rfl) (A0 rfl) rfl qz3 ?_;intro v17_1;refine R6 ?_;refine G8 i v (i + 1) (v17_1) ?_ ?_ (E8 1 (by exact D7 (fun z => [Own.arr v17_1 9 1 z]) (Ah3 (f := fun w : A4 => [AV.str w.Key]) hx)) A5)
  ·omega
  omega
 intro h10;have k10 := C2 h10;have hge : l.length ≤ i := by omega
 rw [U1 hge];refine R7 ?_;refine BA3 0 2 rfl rfl ?_;exact E5 rfl (A7 rfl (by exact D7 (AV.list 1) (by unfold U0; rw [List.map_map]; rfl)))
theorem Bl0 (w : A4) (h : w.size ≤ 4194304) : F6 93 [AV.agg w.cs] (AV.bool (!AI7 w.Val w.Gone)) := by
  unfold A4.size at h;refine B8 Tryz.func93 rfl Tryz.ntmps93 rfl ?_;refine R3 ?_;intro b1;refine R8 ?_;refine A1 rfl (A9 rfl Tryz.call88 rfl (BS6 _ _ qz8) (A3 (A0 rfl) (A3 (A0 rfl) B2))) ?_;refine R4 ?_;exact E5 rfl (A7 rfl m9)
theorem Bp5 (l : List A4) (hs : D2 A4.size l ≤ 4194304) : F6 70 [AV.list 3 (l.map A4.cs)] (AV.bool (AE4 l)) := by
  have hm : ∀ x ∈ l, x.size ≤ 4194304 := fun x hx => L4 (BE2 hx) hs;refine B8 Tryz.func70 rfl Tryz.ntmps70 rfl ?_;refine R11 ?_;refine N4 rfl (fun hc => A9 rfl Tryz.call91 rfl (Bx5 _ AQ3) (A3 (A8 rfl hc) B2)) ?_;refine N4 rfl (fun hc => A9 rfl Tryz.call90 rfl (Bx4 _ (by first | assumption | exact Cm2 AQ3)) (A3 (A8 rfl hc) B2)) ?_;refine R3 ?_;refine N4 rfl (fun hc => A9 rfl Tryz.call92 rfl (BG9 _ _ _ qz89) (A3 (A8 rfl hc) (A3 (Bw2 Tryz.call93 (fun w h => Bl0 w h)) B2))) ?_;refine R5 ?_;exact E5 rfl (A7 rfl (by exact D7 AV.bool (by unfold AE4; simp only [A6])))
theorem Av5 (l : List A4) (hs : D2 A4.size l ≤ 1048576) : F6 64 [AV.list 3 (l.map A4.cs)] (AV.bool (AG7 l)) := by
 refine B8 Tryz.func64 rfl Tryz.ntmps64 rfl ?_;refine W4 (t := 0) rfl fun hl => ?_;try simp only [A6] at hl
 refine R12 ?_;refine E9 [(0, _), (5, _), (6, _)] _ (fun (i : Nat) => i ≤ l.length ∧ (l.all AM8 && adj T1 l) = ((l.drop i).all AM8 && adj T1 (l.drop (i - 1)))) (fun i => []) (fun i => [(7, AV.int i)]) (fun i => l.length - i) (0) ?_ (F5 A5) ?_
 ·exact ⟨D6 _, rfl⟩
 intro i hinv;refine R5 ?_;refine A2 ?_ ?_
 ·intro h8;have k8 := C6 h8;have hlt : i < l.length := by omega
  obtain ⟨x, hx⟩ := B3 hlt;obtain ⟨y, hy⟩ := B3 (show i - 1 < l.length by omega);have hsx : x.size ≤ 1048576 := L4 (m6 hx) hs;unfold A4.size at hsx;refine R6 ?_;refine A1 rfl (C7 rfl C0 F2 (A0 rfl) (A0 rfl) hx qz3) ?_;refine R2 ?_;intro b4;refine R11 ?_;refine C1 rfl rfl (A9 rfl Tryz.call86 rfl (BX7 _ _ _ qz8 qz8) (A3 (A0 rfl) (A3 (A0 rfl) (A3 (A0 rfl) B2)))) ?_;refine R8 ?_;refine O6 rfl (i7 rfl rfl rfl) (fun hc => C7 rfl C0 F2 (A8 rfl hc) (A8 rfl hc) hy qz6) ?_;refine R4 ?_;refine O6 rfl (i7 rfl rfl rfl) (fun hc => BU5 rfl (A8 rfl hc) (A8 rfl hc)) ?_;refine R3 ?_;refine A2 ?_ ?_
  ·intro h34;have hfin : AG7 l = false := by unfold AG7; rw [hinv.2]; cases hg : AM8 x with | false => (rw [BA9 hx hg]; simp) | true => (have hb : 0 < i ∧ T1 y x = false := (by unfold AM8 at hg; unfold T1; simp_all; try grind); rw [Ai9 hx hy hb.1 hb.2]; simp)
   refine R5 ?_;exact E5 rfl (A7 rfl qz139)
  intro h34;have hg : AM8 x = true ∧ (0 < i → T1 y x = true) := by unfold AM8 T1; simp_all
  refine R5 ?_;refine F7 i (i + 1) ?_ ?_ (Q1 1 A5)
  ·exact ⟨by omega, by rw [hinv.2, BA8 hx hg.1, Ai8 hx hy hg.2]⟩
  omega
 intro h8;have k8 := C2 h8;have hge : l.length ≤ i := by omega
 refine R9 ?_;exact E5 rfl (A7 rfl qz139)
theorem BH1 (l : List A4) (hs : D2 A4.size l ≤ 1048576) : F6 37 [AV.list 3 (l.map A4.cs)] (AV.bool (BL0 l)) := by
 refine B8 Tryz.func37 rfl Tryz.ntmps37 rfl ?_;refine W4 (t := 0) rfl fun hl => ?_;try simp only [A6] at hl
 refine R12 ?_;refine E9 [(0, _), (5, _), (6, _)] _ (fun (i : Nat) => i ≤ l.length ∧ l.all (fun w => !w.Gone) = (l.drop i).all (fun w => !w.Gone)) (fun i => []) (fun i => [(7, AV.int i)]) (fun i => l.length - i) (0) ?_ (F5 A5) ?_
 ·exact ⟨D6 _, rfl⟩
 intro i hinv;refine R5 ?_;refine A2 ?_ ?_
 ·intro h8;have k8 := C6 h8;have hlt : i < l.length := by omega
  obtain ⟨x, hx⟩ := B3 hlt;refine R5 ?_;refine A1 rfl (C7 rfl C0 F2 (A0 rfl) (A0 rfl) hx qz3) ?_;refine R2 ?_;intro b4;refine R7 ?_;refine A2 ?_ ?_
  ·intro h12;refine R5 ?_;exact E5 rfl (A7 rfl qz119)
  intro h12;refine R5 ?_;refine F7 i (i + 1) ?_ ?_ (Q1 1 A5)
  ·exact ⟨by omega, by rw [hinv.2, BA8 hx (by rw [h12]; rfl)]⟩
  omega
 intro h8;have k8 := C2 h8;have hge : l.length ≤ i := by omega
 refine R4 ?_;refine A1 rfl (A9 rfl Tryz.call64 rfl (Av5 _ q7) (A3 (A0 rfl) B2)) ?_;refine R3 ?_;exact E5 rfl (A7 rfl qz119)
theorem Bp6 (w : A4) (k : Str) : F6 98 [AV.agg w.cs, AV.str k] (AV.int (Ba0 k w)) := by
  refine B8 Tryz.func98 rfl Tryz.ntmps98 rfl ?_;refine R3 ?_;intro b2;refine R7 ?_;refine A1 rfl (A9 rfl Tryz.call99 rfl (Ca6 _ _) E4) ?_;refine R3 ?_;exact E5 rfl (A7 rfl m9)
theorem BJ8 (l : List A4) (k : Str) (hs : l.length ≤ 4611686018427387903) : F6 76 [AV.list 3 (l.map A4.cs), AV.str k] (AV.tup [AV.int (AP5 l k), AV.bool (Ao0 l k)]) := by
  refine B8 Tryz.func76 rfl Tryz.ntmps76 rfl ?_;refine R9 ?_;refine A1 rfl (A9 rfl Tryz.call97 rfl (BH0 _ _ _ qz89 _ qz8) (A3 (A0 rfl) (A3 (A0 rfl) (A3 (ev_fun2 Tryz.call98 (fun w k (_ : True) => Bp6 w k)) B2)))) ?_;refine R6 ?_;exact X5 rfl D5 (H7 (A7 rfl m9) (H7 (A7 rfl m9) l9))
theorem Cm3 (l : List A4) (k : Str) (hs : l.length ≤ 4611686018427387903) : F6 51 [AV.list 3 (l.map A4.cs), AV.str k] (AV.agg (BR8 l k).cs) := by
 refine B8 Tryz.func51 rfl Tryz.ntmps51 rfl ?_;refine R3 ?_;intro b4;refine R5 ?_;refine A1 rfl (A9 rfl Tryz.call76 rfl (BJ8 _ _ qz8) (A3 (A0 rfl) (A3 (A0 rfl) B2))) ?_;refine R12 ?_;refine A2 ?_ ?_
 ·intro h14;have hn : Ao0 l k = false := by simpa using h14
  have he : BR8 l k = ⟨k, [], false⟩ := by unfold BR8; rw [hn]; rfl
  rw [he];refine R7 ?_;exact E5 rfl (H8 (ys := _) 0 rfl rfl AZ1 U3 rfl)
 intro h14;have hn : Ao0 l k = true := by simpa using h14
 obtain ⟨w, hw⟩ : ∃ w, l[AP5 l k]? = some w := by unfold Ao0 Bz6 at hn; cases hp : l[AP5 l k]? with | none => (rw [hp] at hn; cases hn) | some w => exact ⟨w, rfl⟩
 have he : BR8 l k = ⟨k, w.Val, true⟩ := by unfold BR8; rw [hn, D1 rfl, hw]
 rw [he];refine R6 ?_;refine A1 rfl (C7 rfl C0 F2 (A0 rfl) (A0 rfl) hw rfl) ?_;refine R6 ?_;exact E5 rfl (H8 (ys := _) 0 rfl rfl AZ1 U3 rfl)
theorem BB4 {c : C4} {n : Nat} (h : c.size ≤ n) : c.Key.length ≤ n ∧ c.Vers.length ≤ n ∧ D2 Y3.size c.Vers ≤ n := by
  unfold C4.size at h;have : c.Vers.length ≤ n := L4 P7 (show D2 Y3.size c.Vers ≤ n by omega);omega
theorem Bd3 {p : Prop} (h : p := by
  refine B8 CN1 rfl CN2 rfl ?_;refine R7 ?_;refine A1 rfl (A9 rfl CN3 rfl (CN4 _ _ _) Aa2) ?_;refine R3 ?_;exact E5 rfl (A7 rfl m9)) : p := h
namespace tw2n0
def CN1 := @Tryz.func68
def CN2 := @Tryz.ntmps68
def CN3 := @Tryz.call46
def CN4 := @AY9
end tw2n0
open tw2n0 in
theorem Ca7 (t : Int) : F6 68 [AV.int t] (AV.bool (AC1 t)) := Bd3
namespace tw2n1
def CN1 := @Tryz.func227
def CN2 := @Tryz.ntmps227
def CN3 := @Tryz.call60
def CN4 := @Q3
end tw2n1
open tw2n1 in
theorem Ca8 (t : Int) : F6 227 [AV.int t] (AV.bool (within t 1 100000)) := Bd3
namespace tw2n2
def CN1 := @Tryz.func72
def CN2 := @Tryz.ntmps72
def CN3 := @Tryz.call60
def CN4 := @Q3
end tw2n2
open tw2n2 in
theorem BH2 (t : Int) : F6 72 [AV.int t] (AV.bool (AC1 t)) := Bd3
theorem Ca9 (c : C4) (hs : c.size ≤ 4194304) : F6 239 [AV.agg c.cs] (AV.bool (Ac7 c)) := by
 have hcl := BB4 hs;refine B8 Tryz.func239 rfl Tryz.ntmps239 rfl ?_;refine R3 ?_;intro b1;refine R11 ?_;refine E9 [(1, _), (6, _), (7, _)] _ (fun (i : Nat) => i ≤ c.Vers.length ∧ (c.Vers.all (AX7 c.Key) && adj Ae9 c.Vers) = ((c.Vers.drop i).all (AX7 c.Key) && adj Ae9 (c.Vers.drop (i - 1)))) (fun i => []) (fun i => [(8, AV.int i)]) (fun i => c.Vers.length - i) (0) ?_ (F5 A5) ?_
 ·exact ⟨D6 _, rfl⟩
 intro i hinv;refine R5 ?_;refine A2 ?_ ?_
 ·intro h9;have k9 := C6 h9;have hlt : i < c.Vers.length := by omega
  obtain ⟨x, hx⟩ := B3 hlt;obtain ⟨y, hy⟩ := B3 (show i - 1 < c.Vers.length by omega);have hsx : x.size ≤ 4194304 := L4 (m6 hx) hcl.2.2;unfold Y3.size at hsx;refine R6 ?_;refine A1 rfl (C7 rfl Z5 AC4 (A0 rfl) (A0 rfl) hx qz3) ?_;refine R2 ?_;intro b4;refine R7 ?_;refine C1 rfl rfl (A9 rfl Tryz.call227 rfl (Ca8 _) L2) ?_;refine R8 ?_;refine O6 rfl (j5 rfl rfl rfl) (fun hc => A9 rfl Tryz.call86 rfl (BX7 _ _ _ qz8 qz8) (A3 (A8 rfl hc) (A3 (A8 rfl hc) (A3 (A8 rfl hc) B2)))) ?_;refine R10 ?_;refine O6 rfl (i7 rfl rfl rfl) (fun hc => C7 rfl Z5 AC4 (A8 rfl hc) (A8 rfl hc) hy qz6) ?_;refine R8 ?_;refine A2 ?_ ?_
  ·intro h42;have hfin : Ac7 c = false := by unfold Ac7; rw [hinv.2]; cases hg : AX7 c.Key x with | false => (rw [BA9 hx hg]; simp) | true => (have hb : 0 < i ∧ Ae9 y x = false := (by unfold AX7 at hg; unfold Ae9; simp_all; try grind); rw [Ai9 hx hy hb.1 hb.2]; simp)
   refine R5 ?_;exact E5 rfl (A7 rfl qz151)
  intro h42;have hg : AX7 c.Key x = true ∧ (0 < i → Ae9 y x = true) := by unfold AX7 Ae9; simp_all
  refine R5 ?_;refine F7 i (i + 1) ?_ ?_ (Q1 1 A5)
  ·exact ⟨by omega, by rw [hinv.2, BA8 hx hg.1, Ai8 hx hy hg.2]⟩
  omega
 intro h9;have k9 := C2 h9;have hge : c.Vers.length ≤ i := by omega
 refine R5 ?_;refine A1 rfl (A9 rfl Tryz.call95 rfl (AW6 _ qz8) (A3 (A0 rfl) B2)) ?_;refine R4 ?_;refine N4 rfl (fun hc => A9 rfl Tryz.call60 rfl (Q3 _ _ _) (A3 (A8 rfl hc) Ah1)) ?_;refine R4 ?_;exact E5 rfl (A7 rfl qz151)
theorem Bg4 (l : List C4) (hs : D2 C4.size l ≤ 4194304) : F6 226 [AV.list 2 (l.map C4.cs)] (AV.bool (Ao2 l)) := by
 refine B8 Tryz.func226 rfl Tryz.ntmps226 rfl ?_;refine W4 (t := 0) rfl fun hl => ?_;try simp only [A6] at hl
 refine R12 ?_;refine E9 [(0, _), (5, _), (6, _)] _ (fun (i : Nat) => i ≤ l.length ∧ (l.all Ac7 && adj u5 l) = ((l.drop i).all Ac7 && adj u5 (l.drop (i - 1)))) (fun i => []) (fun i => [(7, AV.int i)]) (fun i => l.length - i) (0) ?_ (F5 A5) ?_
 ·exact ⟨D6 _, rfl⟩
 intro i hinv;refine R5 ?_;refine A2 ?_ ?_
 ·intro h8;have k8 := C6 h8;have hlt : i < l.length := by omega
  obtain ⟨x, hx⟩ := B3 hlt;obtain ⟨y, hy⟩ := B3 (show i - 1 < l.length by omega);have hsx : x.size ≤ 4194304 := L4 (m6 hx) hs;refine R6 ?_;refine A1 rfl (C7 rfl I9 T4 (A0 rfl) (A0 rfl) hx qz3) ?_;refine R2 ?_;intro b4;refine R6 ?_;refine C1 rfl rfl (A9 rfl Tryz.call239 rfl (Ca9 _ q7) (A3 (A0 rfl) B2)) ?_;refine R8 ?_;refine O6 rfl (i7 rfl rfl rfl) (fun hc => C7 rfl I9 T4 (A8 rfl hc) (A8 rfl hc) hy qz6) ?_;refine R4 ?_;refine O6 rfl (i7 rfl rfl rfl) (fun hc => BU5 rfl (A8 rfl hc) (A8 rfl hc)) ?_;refine R3 ?_;refine A2 ?_ ?_
  ·intro h29;have hfin : Ao2 l = false := by unfold Ao2; rw [hinv.2]; cases hg : Ac7 x with | false => (rw [BA9 hx hg]; simp) | true => (have hb : 0 < i ∧ u5 y x = false := (by unfold u5; simp_all; try grind); rw [Ai9 hx hy hb.1 hb.2]; simp)
   refine R5 ?_;exact E5 rfl (A7 rfl qz142)
  intro h29;have hg : Ac7 x = true ∧ (0 < i → u5 y x = true) := by unfold u5; simp_all
  refine R5 ?_;refine F7 i (i + 1) ?_ ?_ (Q1 1 A5)
  ·exact ⟨by omega, by rw [hinv.2, BA8 hx hg.1, Ai8 hx hy hg.2]⟩
  omega
 intro h8;have k8 := C2 h8;have hge : l.length ≤ i := by omega
 refine R9 ?_;exact E5 rfl (A7 rfl qz142)
theorem Cu5 {c : C4} (h : 1 ≤ c.Vers.length) : ∃ v, c.Vers[c.Vers.length - 1]? = some v ∧ CM1 c = v.Time := by
  obtain ⟨v, hv⟩ := B3 (show c.Vers.length - 1 < c.Vers.length by omega);refine ⟨v, hv, ?_⟩;unfold CM1; rw [List.getLast?_eq_getElem?, hv]
theorem BX8 (l : List C4) (k : Str) : F6 204 [AV.list 2 (l.map C4.cs), AV.str k] (AV.int (atC l k)) := by
 refine B8 Tryz.func204 rfl Tryz.ntmps204 rfl ?_;refine W4 (t := 0) rfl fun hl => ?_;try simp only [A6] at hl
 refine R12 ?_;refine E9 [(1, _), (7, _), (8, _)] _ (fun (i : Nat) => i ≤ l.length ∧ ∀ j x, j < i → l[j]? = some x → x.Key ≠ k) (fun i => []) (fun i => [(9, AV.int i)]) (fun i => l.length - i) (0) ?_ (F5 A5) ?_
 ·exact ⟨D6 _, fun j x h => by omega⟩
 intro i hinv;refine R5 ?_;refine A2 ?_ ?_
 ·intro h10;have k10 := C6 h10;have hlt : i < l.length := by omega
  obtain ⟨x, hx⟩ := B3 hlt;refine R6 ?_;refine A1 rfl (C7 rfl I9 T4 (A0 rfl) (A0 rfl) hx qz3) ?_;refine R2 ?_;intro b6;refine R10 ?_;refine A2 ?_ ?_
  ·intro h17;refine R6 ?_;exact E5 rfl (A7 rfl qz115)
  intro h17;refine R5 ?_;refine F7 i (i + 1) ?_ ?_ (Q1 1 A5)
  ·exact ⟨by omega, fun j y hj hy => if hji : j < i then hinv.2 j y hji hy else (by have e : j = i := qz8; subst e; rw [hx] at hy; injection hy with hy; subst hy; simpa using h17)⟩
  omega
 intro h10;have k10 := C2 h10;have hge : l.length ≤ i := by omega
 refine R6 ?_;exact E5 rfl (A7 rfl qz115)
theorem BH3 (l : List C4) (k : Str) (ho : AU6 l) (hs : D2 C4.size l ≤ 4194304) : F6 225 [AV.list 2 (l.map C4.cs), AV.str k] (AV.int (O3 l k)) := by
 refine B8 Tryz.func225 rfl Tryz.ntmps225 rfl ?_;refine R8 ?_;refine A1 rfl (A9 rfl Tryz.call204 rfl (BX8 _ _) E4) ?_;refine R8 ?_;refine A2 ?_ ?_
 ·intro h10;have k10 := C6 h10;have hn : Z9 l k = none := Bw6 k10;have he : O3 l k = 0 := by unfold O3; rw [hn]
  rw [he];refine R5 ?_;exact E5 rfl (A7 rfl m9)
 intro h10;have k10 := C2 h10;obtain ⟨p, c, hp, hc, hf⟩ := Bw7 k10;rw [hp];obtain ⟨v, hv, hlv⟩ := Cu5 (ho.2 c (C3 hc));have hcl := BB4 (L4 (m6 hc) hs);have hc1 := ho.2 c (C3 hc);have he : O3 l k = v.Time := by unfold O3; rw [hf]; exact hlv
 rw [he];refine R5 ?_;refine C1 rfl rfl (C7 rfl I9 T4 (A0 rfl) (A0 rfl) hc qz3) ?_;refine R4 ?_;refine C1 rfl rfl (C7 rfl I9 T4 (A0 rfl) (A0 rfl) hc qz3) ?_;refine R4 ?_;refine C1 rfl rfl (C7 rfl Z5 AC4 (A0 rfl) (A0 rfl) hv qz3) ?_;refine R5 ?_;exact E5 rfl (A7 rfl m9)
end Go.PQ
namespace Go.PQ
open Go.Proofs
open Go Go.AV Go.M
attribute [local irreducible] OpW OpA OpS AWP J3 K8 J6 J9 Le Ev F8
end Go.PQ
namespace Go.PQ
open Go.Proofs
open Go Go.AV Go.M
attribute [local irreducible] OpW OpA OpS AWP J3 K8 K0 OpE J6 H5 J9 Le Ev F8 L6 Int.tmod Int.tdiv IntKind.wrap
end Go.PQ
namespace Go.PQ
open Go.Proofs
open Go Go.AV Go.M
attribute [local irreducible] OpW OpA OpS AWP J3 K8 K0 OpE J6 H5 J9 Le Ev F8 L6 Int.tmod Int.tdiv IntKind.wrap
end Go.PQ
namespace Go.PQ
open Go.Proofs
open Go Go.AV Go.M
attribute [local irreducible] OpW OpA OpS AWP J3 K8 K0 OpE J6 H5 J9 Le Ev F8 L6 Int.tmod Int.tdiv IntKind.wrap
end Go.PQ
namespace Go.PQ
open Go.Proofs
open Go Go.AV Go.M
attribute [local irreducible] OpW OpA OpS AWP J3 K8 K0 OpE J6 H5 J9 Le Ev F8 L6
end Go.PQ