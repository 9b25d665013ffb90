/- Texts of the claim, part 3. -/
import Derived.Lib.ItoaNum
import Derived.Lib.ItoaMem
import Derived.Lib.Split
import Derived.Lib.SplitLaws
import Derived.Lib.AtoiAllCases
import Derived.Lib.Strings
import Derived.Lib.IndexMore
import Derived.Lib.Join
import Derived.Test.YtcfkbhnpfjjmjaaGreatRows
import Derived.Test.YtcfkbhnpfjjmjaaGreatZSeen2
set_option linter.unusedVariables false
set_option linter.unusedSimpArgs false
set_option maxRecDepth 100000
set_option maxHeartbeats 4000000
namespace Go.M
open Go.AV
def hRec (h : E3) : L1 := ⟨1, h.Txn, h.Time, h.Lead, h.Reads, h.Writes, false⟩
def hOf (r : L1) : E3 := ⟨r.Txn, r.Time, r.Lead, r.Reads, r.Writes⟩
def hasK (l : List A9) (k : Str) : Bool := l.any fun w => w.Key == k
def hasS (l : List Str) (k : Str) : Bool := l.any fun x => k == x
theorem m8 {l : List A9} {k : Str} : hasK l k = true ↔ ∃ w ∈ l, w.Key = k := by unfold hasK; simp
theorem AO7 {l : List Str} {k : Str} : hasS l k = true ↔ k ∈ l := by unfold hasS; simp
def overlap (ws : List A9) (rs : List Str) (os : List A9) : Bool := ws.any fun w => hasK os w.Key || hasS rs w.Key
def clash (h k : E3) : Bool := overlap h.Writes k.Reads k.Writes || overlap k.Writes h.Reads h.Writes
def apart (h : E3) (rs : List Str) (ws : List A9) : Bool := rs.all (fun k => !hasK h.Writes k) && ws.all (fun w => !(hasK h.Writes w.Key || hasS h.Reads w.Key))
theorem AR6 {h : E3} {rs : List Str} {ws : List A9} : apart h rs ws = true ↔ (∀ k ∈ rs, ∀ w ∈ h.Writes, w.Key ≠ k) ∧ (∀ w ∈ ws, (∀ v ∈ h.Writes, v.Key ≠ w.Key) ∧ w.Key ∉ h.Reads) := by
  unfold apart
  simp only [Bool.and_eq_true, List.all_eq_true, Bool.not_eq_true', Bool.or_eq_false_iff]
  constructor
  · rintro ⟨h1, h2⟩
    refine ⟨fun k hk w hw e => ?_, fun w hw => ⟨fun v hv e => ?_, fun hr => ?_⟩⟩
    · have := h1 k hk; rw [m8.2 ⟨w, hw, e⟩] at this; cases this
    · have := (h2 w hw).1; rw [m8.2 ⟨v, hv, e⟩] at this; cases this
    · have := (h2 w hw).2; rw [AO7.2 hr] at this; cases this
  · rintro ⟨h1, h2⟩
    refine ⟨fun k hk => ?_, fun w hw => ⟨?_, ?_⟩⟩
    · cases e : hasK h.Writes k with
      | false => rfl
      | true => obtain ⟨v, hv, ev⟩ := m8.1 e; exact (h1 k hk v hv ev).elim
    · cases e : hasK h.Writes w.Key with
      | false => rfl
      | true => obtain ⟨v, hv, ev⟩ := m8.1 e; exact ((h2 w hw).1 v hv ev).elim
    · cases e : hasS h.Reads w.Key with
      | false => rfl
      | true => exact ((h2 w hw).2 (AO7.1 e)).elim
theorem Ax8 (h g : E3) : clash h g = !apart g h.Reads h.Writes := by
  cases ha : apart g h.Reads h.Writes with
  | true =>
    obtain ⟨h1, h2⟩ := AR6.1 ha
    refine Bool.eq_false_iff.2 fun hc => ?_
    unfold clash overlap at hc
    simp only [Bool.or_eq_true, List.any_eq_true] at hc
    rcases hc with ⟨w, hw, e | e⟩ | ⟨w, hw, e | e⟩
    · obtain ⟨v, hv, ev⟩ := m8.1 e; exact (h2 w hw).1 v hv ev
    · exact (h2 w hw).2 (AO7.1 e)
    · obtain ⟨v, hv, ev⟩ := m8.1 e; exact (h2 v hv).1 w hw ev.symm
    · exact h1 _ (AO7.1 e) w hw rfl
  | false =>
    rw [Bool.not_false]
    cases hc : clash h g with
    | true => rfl
    | false =>
      rw [← ha, AR6.2]
      unfold clash overlap at hc
      simp only [Bool.or_eq_false_iff, List.any_eq_false, Bool.or_eq_true, not_or] at hc
      refine ⟨fun k hk w hw e => (hc.2 w hw).2 (AO7.2 (e ▸ hk)), fun w hw => ⟨fun v hv e => (hc.1 w hw).1 (m8.2 ⟨v, hv, e⟩), fun hr => (hc.1 w hw).2 (AO7.2 hr)⟩⟩
theorem Ap2 {h : E3} {rs : List Str} {ws : List A9} {t m l : Int} (ha : apart h rs ws = true) : apart ⟨t, m, l, rs, ws⟩ h.Reads h.Writes = true := by
  obtain ⟨h1, h2⟩ := AR6.1 ha
  exact AR6.2 ⟨fun k hk w hw e => (h2 w hw).2 (e ▸ hk), fun w hw => ⟨fun v hv e => (h2 v hv).1 w hw e.symm, fun hr => h1 _ hr w hw rfl⟩⟩
def fullC (cells : List C5) (k : Str) : Bool := match findC cells k with
  | some c => decide (16 ≤ c.Vers.length)
  | none => false
def hWs (l : List E3) : List A9 := (l.map E3.Writes).flatten
def roomKs (cells : List C5) (ws : List A9) : List Str := keysI (i9 cells ++ O8 ws)
def room (cells : List C5) (ws : List A9) : Bool := ws.all (fun w => !fullC cells w.Key) && decide ((roomKs cells ws).length ≤ 24)
theorem BF9 (a b : List E3) : hWs (a ++ b) = hWs a ++ hWs b := by unfold hWs; simp
theorem BC3 (a : E3) (b : List E3) : hWs (a :: b) = a.Writes ++ hWs b := by unfold hWs; simp
theorem AO8 {l : List E3} {w : A9} : w ∈ hWs l ↔ ∃ h ∈ l, w ∈ h.Writes := by
  unfold hWs
  simp only [List.mem_flatten, List.mem_map]
  constructor
  · rintro ⟨_, ⟨a, ha, rfl⟩, hw⟩; exact ⟨a, ha, hw⟩
  · rintro ⟨h, hh, hw⟩; exact ⟨_, ⟨h, hh, rfl⟩, hw⟩
theorem BG0 {cells : List C5} {ws : List A9} {k : Str} : k ∈ roomKs cells ws ↔ k ∈ i9 cells ∨ k ∈ O8 ws := by
  unfold roomKs; rw [AZ7, List.mem_append]
theorem By5 {l : List Str} (h : n1 l) : l.Nodup := h.imp fun {a b} hab e => by rw [e, I4] at hab; cases hab
theorem Bg5 {α : Type} [BEq α] [LawfulBEq α] : ∀ {a b : List α}, a.Nodup → (∀ x ∈ a, x ∈ b) → a.length ≤ b.length
  | [], _, _, _ => Nat.zero_le _
  | x :: a, b, ha, h => by
    obtain ⟨h1, h2⟩ := List.nodup_cons.1 ha
    have hx := h x List.mem_cons_self
    have ih := Bg5 (b := b.erase x) h2 fun y hy => (List.mem_erase_of_ne (fun e : y = x => h1 (by rw [← e]; exact hy))).2 (h y (List.mem_cons_of_mem _ hy))
    rw [List.length_erase_of_mem hx] at ih
    have := List.length_pos_of_mem hx
    rw [H4]; omega
theorem srtS_le {a b : List Str} (ha : n1 a) (h : ∀ x ∈ a, x ∈ b) : a.length ≤ b.length := Bg5 (By5 ha) h
theorem Ap3 {c1 c2 : List C5} {w1 w2 : List A9} (h : ∀ k, k ∈ i9 c1 ∨ k ∈ O8 w1 → k ∈ i9 c2 ∨ k ∈ O8 w2) : (roomKs c1 w1).length ≤ (roomKs c2 w2).length :=
  srtS_le (BT7 _) fun k hk => BG0.2 (h k (BG0.1 hk))
theorem BU2 {cells : List C5} {a b : List A9} (h : ∀ w, w ∈ a ↔ w ∈ b) : room cells a = room cells b := by
  unfold room
  have h1 : a.all (fun w => !fullC cells w.Key) = b.all (fun w => !fullC cells w.Key) := by
    rw [Bool.eq_iff_iff, List.all_eq_true, List.all_eq_true]
    exact ⟨fun k w hw => k w ((h w).2 hw), fun k w hw => k w ((h w).1 hw)⟩
  have hk : ∀ k, k ∈ O8 a ↔ k ∈ O8 b := fun k => by unfold O8; simp only [List.mem_map]; exact ⟨fun ⟨w, hw, e⟩ => ⟨w, (h w).1 hw, e⟩, fun ⟨w, hw, e⟩ => ⟨w, (h w).2 hw, e⟩⟩
  have h2 : (roomKs cells a).length = (roomKs cells b).length := Nat.le_antisymm (Ap3 fun k hk2 => by rw [hk] at hk2; exact hk2) (Ap3 fun k hk2 => by rw [← hk] at hk2; exact hk2)
  rw [h1, h2]
def allB (n : Nat) (p : Nat → Bool) : Bool := (List.range n).all p
theorem AW8 {n : Nat} {p : Nat → Bool} : allB n p = true ↔ ∀ i, i < n → p i = true := by unfold allB; simp
theorem AM6 {n i : Nat} {p : Nat → Bool} (hi : i < n) (h : p i = false) : allB n p = false := by
  cases e : allB n p with
  | false => rfl
  | true => rw [AW8.1 e i hi] at h; cases h
def hasH (l : List E3) (n : Int) : Bool := l.any fun h => h.Txn == n
def hasT (l : List M1) (n : Int) : Bool := l.any fun t => t.Txn == n
def BL2 (l : List E3) (i : Nat) (n : Int) : Bool := match l[i - 1]? with
  | some g => !(decide (0 < i) && decide (n ≤ g.Txn))
  | none => true
def BL3 (l : List M1) (i : Nat) (n : Int) : Bool := match l[i - 1]? with
  | some g => !(decide (0 < i) && decide (n ≤ g.Txn))
  | none => true
def heldAt (s : G2) (i : Nat) : Bool := match s.Held[i]? with
  | none => true
  | some h => (((goodRec (hRec h) && !decide (s.Floor < h.Time)) && BL2 s.Held i h.Txn) && (s.Held.take i).all fun g => apart g h.Reads h.Writes) && h.Writes.all fun w => decide (lastTime s.Cells w.Key < h.Time)
def areHeld (s : G2) : Bool := allB s.Held.length (heldAt s) && (decide (s.Held.length ≤ 12) && room s.Cells (hWs s.Held))
def tFits (s : G2) (t : M1) : Bool := if t.Yes = true then within t.Time 1 s.Floor else t.Time == 0
def toldAt (s : G2) (i : Nat) : Bool := match s.Told[i]? with
  | none => true
  | some t => ((isTxnR t.Txn && tFits s t) && BL3 s.Told i t.Txn) && !hasH s.Held t.Txn
def goodState (s : G2) : Bool := ((((isTrue s.Floor && goodCells s.Cells) && areHeld s) && decide (s.Told.length ≤ 60)) && s.Cells.all fun c => decide (lastTime s.Cells c.Key ≤ s.Floor)) && allB s.Told.length (toldAt s)
structure GS (s : G2) : Prop where
  floor : 0 ≤ s.Floor ∧ s.Floor ≤ 100000
  cells : goodCells s.Cells = true
  good : ∀ h ∈ s.Held, goodRec (hRec h) = true ∧ h.Time ≤ s.Floor ∧ ∀ w ∈ h.Writes, lastTime s.Cells w.Key < h.Time
  hsort : s.Held.Pairwise fun a b => a.Txn < b.Txn
  apart : s.Held.Pairwise fun a b => apart a b.Reads b.Writes = true
  hlen : s.Held.length ≤ 12
  room : room s.Cells (hWs s.Held) = true
  tlen : s.Told.length ≤ 60
  last : ∀ c ∈ s.Cells, lastTime s.Cells c.Key ≤ s.Floor
  told : ∀ t ∈ s.Told, isTxnR t.Txn = true ∧ tFits s t = true ∧ hasH s.Held t.Txn = false
  tsort : s.Told.Pairwise fun a b => a.Txn < b.Txn
theorem BG1 {α : Type} {f : α → Int} {l : List α} (h : ∀ (i : Nat) (x y : α), 0 < i → l[i]? = some x → l[i - 1]? = some y → f y < f x) : l.Pairwise fun a b => f a < f b := by
  have key : ∀ (j i : Nat) (x y : α), i < j → l[j]? = some x → l[i]? = some y → f y < f x := by
    intro j
    induction j with
    | zero => intro i x y hi; omega
    | succ j ih =>
      intro i x y hi hx hy
      have hj := (List.getElem?_eq_some_iff.1 hx).1
      have hz := List.getElem?_eq_getElem (show j < l.length by omega)
      have h1 := h (j + 1) x _ qz8 hx hz
      rcases Nat.lt_or_ge i j with h2 | h2
      · have := ih i _ y h2 hz hy; omega
      · have : i = j := by omega
        subst this; rw [hz] at hy; injection hy with hy; subst hy; exact h1
  rw [List.pairwise_iff_getElem]
  intro i j hi hj hij
  exact key j i _ _ hij (List.getElem?_eq_getElem hj) (List.getElem?_eq_getElem hi)
theorem BU3 {l : List E3} {i : Nat} {n : Int} : BL2 l i n = true ↔ ∀ g, 0 < i → l[i - 1]? = some g → g.Txn < n := by
  unfold BL2
  cases h : l[i - 1]? with
  | none => simp
  | some g =>
    simp only [Bool.not_eq_true', Bool.and_eq_false_iff, decide_eq_false_iff_not]
    exact ⟨fun k y h0 e => by injection e with e; subst e; omega, fun k => if h0 : 0 < i then .inr (by have := k g h0 rfl; omega) else .inl h0⟩
theorem BU4 {l : List M1} {i : Nat} {n : Int} : BL3 l i n = true ↔ ∀ g, 0 < i → l[i - 1]? = some g → g.Txn < n := by
  unfold BL3
  cases h : l[i - 1]? with
  | none => simp
  | some g =>
    simp only [Bool.not_eq_true', Bool.and_eq_false_iff, decide_eq_false_iff_not]
    exact ⟨fun k y h0 e => by injection e with e; subst e; omega, fun k => if h0 : 0 < i then .inr (by have := k g h0 rfl; omega) else .inl h0⟩
theorem BU5 {α : Type} {p : α → α → Prop} {l : List α} : l.Pairwise p ↔ ∀ (i : Nat) (x : α), l[i]? = some x → ∀ y ∈ l.take i, p y x := by
  rw [List.pairwise_iff_getElem]
  constructor
  · intro h i x hx y hy
    obtain ⟨j, hj⟩ := List.getElem?_of_mem hy
    have hi := (List.getElem?_eq_some_iff.1 hx)
    have hjl := (List.getElem?_eq_some_iff.1 hj).1
    rw [G9] at hjl
    rw [List.getElem?_take_of_lt qz8] at hj
    have hj2 := (List.getElem?_eq_some_iff.1 hj)
    obtain ⟨hi1, hi2⟩ := hi
    obtain ⟨hj3, hj4⟩ := hj2
    have := h j i hj3 hi1 qz8
    rw [hi2, hj4] at this; exact this
  · intro h i j hi hj hij
    refine h j _ (List.getElem?_eq_getElem hj) _ (C4 (i := i) ?_)
    rw [List.getElem?_take_of_lt hij]; exact List.getElem?_eq_getElem hi
theorem AB0 {s : G2} : goodState s = true ↔ GS s := by
  unfold goodState areHeld
  simp only [Bool.and_eq_true, decide_eq_true_eq, AW8, List.all_eq_true]
  constructor
  · rintro ⟨⟨⟨⟨⟨h1, h2⟩, h3, h4, h5⟩, h6⟩, h7⟩, h8⟩
    have hh : ∀ (i : Nat) (h : E3), s.Held[i]? = some h → goodRec (hRec h) = true ∧ h.Time ≤ s.Floor ∧ (∀ g, 0 < i → s.Held[i - 1]? = some g → g.Txn < h.Txn) ∧ (∀ g ∈ s.Held.take i, apart g h.Reads h.Writes = true) ∧ ∀ w ∈ h.Writes, lastTime s.Cells w.Key < h.Time := fun i h hi => by
      have := h3 i (List.getElem?_eq_some_iff.1 hi).1
      unfold heldAt at this
      rw [hi] at this
      simp only [Bool.and_eq_true, List.all_eq_true, decide_eq_true_eq, BU3, Bool.not_eq_true', decide_eq_false_iff_not] at this
      exact ⟨this.1.1.1.1, by omega, this.1.1.2, this.1.2, this.2⟩
    have ht : ∀ (i : Nat) (t : M1), s.Told[i]? = some t → isTxnR t.Txn = true ∧ tFits s t = true ∧ (∀ g, 0 < i → s.Told[i - 1]? = some g → g.Txn < t.Txn) ∧ hasH s.Held t.Txn = false := fun i t hi => by
      have := h8 i (List.getElem?_eq_some_iff.1 hi).1
      unfold toldAt at this
      rw [hi] at this
      simp only [Bool.and_eq_true, BU4, Bool.not_eq_true'] at this
      exact ⟨this.1.1.1, this.1.1.2, this.1.2, this.2⟩
    unfold isTrue within at h1
    simp only [Bool.and_eq_true, decide_eq_true_eq] at h1
    refine ⟨h1, h2, fun h hm => ?_, BG1 fun i x y h0 hx hy => (hh i x hx).2.2.1 y h0 hy, BU5.2 fun i x hx => (hh i x hx).2.2.2.1, h4, h5, h6, h7, fun t hm => ?_, BG1 fun i x y h0 hx hy => (ht i x hx).2.2.1 y h0 hy⟩
    · obtain ⟨i, hi⟩ := List.getElem?_of_mem hm
      have := hh i h hi
      exact ⟨this.1, this.2.1, this.2.2.2.2⟩
    · obtain ⟨i, hi⟩ := List.getElem?_of_mem hm
      have := ht i t hi
      exact ⟨this.1, this.2.1, this.2.2.2⟩
  · intro g
    have hch : ∀ {α : Type} {f : α → Int} {l : List α}, (l.Pairwise fun a b => f a < f b) → ∀ (i : Nat) (x y : α), 0 < i → l[i]? = some x → l[i - 1]? = some y → f y < f x := fun {α f l} hp i x y h0 hx hy => by
      obtain ⟨hx1, hx2⟩ := List.getElem?_eq_some_iff.1 hx
      obtain ⟨hy1, hy2⟩ := List.getElem?_eq_some_iff.1 hy
      have := List.pairwise_iff_getElem.1 hp (i - 1) i hy1 hx1 qz8
      rw [hx2, hy2] at this; exact this
    refine ⟨⟨⟨⟨⟨?_, g.cells⟩, fun i hi => ?_, g.hlen, g.room⟩, g.tlen⟩, g.last⟩, fun i hi => ?_⟩
    · unfold isTrue within; simp [g.floor]
    · unfold heldAt
      rw [List.getElem?_eq_getElem hi]
      have hx := List.getElem?_eq_getElem hi
      obtain ⟨g1, g2, g3⟩ := g.good _ (C4 hx)
      simp only [Bool.and_eq_true, List.all_eq_true, decide_eq_true_eq, BU3, Bool.not_eq_true', decide_eq_false_iff_not]
      exact ⟨⟨⟨⟨g1, by omega⟩, fun y h0 hy => hch g.hsort i _ y h0 hx hy⟩, fun y hy => BU5.1 g.apart i _ hx y hy⟩, g3⟩
    · unfold toldAt
      rw [List.getElem?_eq_getElem hi]
      have hx := List.getElem?_eq_getElem hi
      obtain ⟨g1, g2, g3⟩ := g.told _ (C4 hx)
      simp only [Bool.and_eq_true, BU4, Bool.not_eq_true']
      exact ⟨⟨⟨g1, g2⟩, fun y h0 hy => hch g.tsort i _ y h0 hx hy⟩, g3⟩
def insH (h : E3) : List E3 → List E3
  | [] => [h]
  | g :: l => if h.Txn < g.Txn then h :: g :: l else g :: insH h l
def insT (h : M1) : List M1 → List M1
  | [] => [h]
  | g :: l => if h.Txn < g.Txn then h :: g :: l else g :: insT h l
def lessH (l : List E3) (n : Int) : List E3 := l.filter fun h => h.Txn != n
def findH (l : List E3) (n : Int) : Option E3 := l.find? fun h => h.Txn == n
def findT (l : List M1) (n : Int) : Option M1 := l.find? fun t => t.Txn == n
def fits (s : G2) (rs : List Str) (ws : List A9) : Bool := (s.Held.all fun h => apart h rs ws) && (decide (s.Held.length < 12) && room s.Cells (hWs s.Held ++ ws))
def AG3 (s : G2) (r : L1) (fl : Int) (q : List C5) : G2 := ⟨fl, q, lessH s.Held r.Txn, insT ⟨r.Txn, r.Yes, r.Time⟩ s.Told⟩
def applyS (s : G2) (r : L1) : G2 × Bool :=
  if r.Kind = 4 then (⟨r.Time, s.Cells, s.Held, s.Told⟩, decide (s.Floor < r.Time))
  else if hasT s.Told r.Txn = true then (s, false)
  else if r.Kind = 1 then (⟨r.Time, s.Cells, insH (hOf r) s.Held, s.Told⟩, (!hasH s.Held r.Txn && decide (s.Floor < r.Time)) && fits s r.Reads r.Writes)
  else if r.Yes = true then (match findH s.Held r.Txn with
    | none => (s, false)
    | some h => if r.Time < h.Time then (s, false) else if (putP s.Cells h.Writes r.Time).2 = true then (AG3 s r (if s.Floor < r.Time then r.Time else s.Floor) (putP s.Cells h.Writes r.Time).1, true) else (s, false))
  else (AG3 s r s.Floor s.Cells, true)
def d3 : G2 := ⟨0, [], [], []⟩
def o9 (s : G2) (r : L1) : G2 := if (applyS s r).2 = true then (applyS s r).1 else s
def stFrom (s : G2) (l : List L1) : G2 := l.foldl o9 s
def didFrom (s : G2) : List L1 → List Bool
  | [] => []
  | r :: l => (applyS s r).2 :: didFrom (o9 s r) l
theorem AR7 (h : E3) : ∀ l, (insH h l).Perm (h :: l)
  | [] => List.Perm.refl _
  | g :: l => by
    unfold insH
    split
    · exact List.Perm.refl _
    · exact (List.Perm.cons g (AR7 h l)).trans (List.Perm.swap h g l)
theorem Ap4 (h : M1) : ∀ l, (insT h l).Perm (h :: l)
  | [] => List.Perm.refl _
  | g :: l => by
    unfold insT
    split
    · exact List.Perm.refl _
    · exact (List.Perm.cons g (Ap4 h l)).trans (List.Perm.swap h g l)
theorem AJ2 {h x : E3} {l : List E3} : x ∈ insH h l ↔ x = h ∨ x ∈ l := by rw [(AR7 h l).mem_iff, List.mem_cons]
theorem Bg6 {h x : M1} {l : List M1} : x ∈ insT h l ↔ x = h ∨ x ∈ l := by rw [(Ap4 h l).mem_iff, List.mem_cons]
theorem Ap5 {h : E3} : ∀ {l : List E3}, (l.Pairwise fun a b => a.Txn < b.Txn) → (∀ g ∈ l, g.Txn ≠ h.Txn) → (insH h l).Pairwise fun a b => a.Txn < b.Txn
  | [], _, _ => by unfold insH; simp
  | g :: l, hs, hn => by
    obtain ⟨h1, h2⟩ := List.pairwise_cons.1 hs
    have hg := hn g List.mem_cons_self
    unfold insH
    split
    · rename_i hlt
      refine List.pairwise_cons.2 ⟨fun y hy => ?_, hs⟩
      rcases List.mem_cons.1 hy with rfl | hy
      · exact hlt
      · have := h1 y hy; omega
    · refine List.pairwise_cons.2 ⟨fun y hy => ?_, Ap5 h2 fun y hy => hn y (List.mem_cons_of_mem _ hy)⟩
      rcases AJ2.1 hy with rfl | hy
      · omega
      · exact h1 y hy
theorem Ap6 {h : M1} : ∀ {l : List M1}, (l.Pairwise fun a b => a.Txn < b.Txn) → (∀ g ∈ l, g.Txn ≠ h.Txn) → (insT h l).Pairwise fun a b => a.Txn < b.Txn
  | [], _, _ => by unfold insT; simp
  | g :: l, hs, hn => by
    obtain ⟨h1, h2⟩ := List.pairwise_cons.1 hs
    have hg := hn g List.mem_cons_self
    unfold insT
    split
    · rename_i hlt
      refine List.pairwise_cons.2 ⟨fun y hy => ?_, hs⟩
      rcases List.mem_cons.1 hy with rfl | hy
      · exact hlt
      · have := h1 y hy; omega
    · refine List.pairwise_cons.2 ⟨fun y hy => ?_, Ap6 h2 fun y hy => hn y (List.mem_cons_of_mem _ hy)⟩
      rcases Bg6.1 hy with rfl | hy
      · omega
      · exact h1 y hy
theorem hasH_iff {l : List E3} {n : Int} : hasH l n = true ↔ ∃ h ∈ l, h.Txn = n := by unfold hasH; simp
theorem AJ3 {l : List E3} {n : Int} : hasH l n = false ↔ ∀ h ∈ l, h.Txn ≠ n := by unfold hasH; simp
theorem hasT_iff {l : List M1} {n : Int} : hasT l n = true ↔ ∃ h ∈ l, h.Txn = n := by unfold hasT; simp
theorem BC4 {l : List M1} {n : Int} : hasT l n = false ↔ ∀ h ∈ l, h.Txn ≠ n := by unfold hasT; simp
theorem AD7 {l : List E3} {n : Int} {h : E3} : h ∈ lessH l n ↔ h ∈ l ∧ h.Txn ≠ n := by unfold lessH; simp
theorem BG2 : ∀ {l : List M1} {a : Int}, (l.Pairwise fun a b => a.Txn < b.Txn) → (∀ t ∈ l, a < t.Txn ∧ t.Txn ≤ 60) → l.length ≤ (60 - a).toNat
  | [], _, _, _ => Nat.zero_le _
  | t :: l, a, hs, h => by
    obtain ⟨h1, h2⟩ := List.pairwise_cons.1 hs
    have ht := h t List.mem_cons_self
    have := BG2 (a := t.Txn) h2 fun u hu => ⟨h1 u hu, (h u (List.mem_cons_of_mem _ hu)).2⟩
    rw [H4]; omega
theorem By6 {n : Int} : isTxnR n = true ↔ 1 ≤ n ∧ n ≤ 60 := by unfold isTxnR within; simp
theorem Ae2 {a b : List C5} {k : Str} (h : findC a k = findC b k) : lastTime a k = lastTime b k := by unfold lastTime; rw [h]
theorem Bo2 {a b : List C5} {k : Str} (h : findC a k = findC b k) : fullC a k = fullC b k := by unfold fullC; rw [h]
theorem BU6 {l : List C5} {k : Str} {c : C5} (h : findC l k = some c) : c ∈ l ∧ c.Key = k := by
  unfold findC at h
  exact ⟨List.mem_of_find?_eq_some h, by simpa using List.find?_some h⟩
theorem Bu5 {s : G2} (g : GS s) (k : Str) : lastTime s.Cells k ≤ s.Floor := by
  have h0 := g.floor.1
  cases h : findC s.Cells k with
  | none => unfold lastTime; rw [h]; exact h0
  | some c =>
    obtain ⟨h1, h2⟩ := BU6 h
    rw [← h2]; exact g.last c h1
theorem Aj0 {s s' : G2} {t : M1} (h : s.Floor ≤ s'.Floor) (ht : tFits s t = true) : tFits s' t = true := by
  unfold tFits within at *
  split
  · rename_i hy; rw [if_pos hy] at ht; simp only [Bool.and_eq_true, decide_eq_true_eq] at *; omega
  · rename_i hy; rw [if_neg hy] at ht; exact ht
theorem gs_floor {s : G2} (g : GS s) {t : Int} (h1 : s.Floor ≤ t) (h2 : t ≤ 100000) : GS ⟨t, s.Cells, s.Held, s.Told⟩ := by
  have h0 := g.floor.1
  exact ⟨⟨by dsimp only; omega, h2⟩, g.cells, fun h hm => ⟨(g.good h hm).1, by have := (g.good h hm).2.1; dsimp only; omega, (g.good h hm).2.2⟩, g.hsort, g.apart, g.hlen, g.room, g.tlen, fun c hc => by have := g.last c hc; dsimp only; omega, fun u hu => ⟨(g.told u hu).1, Aj0 h1 (g.told u hu).2.1, (g.told u hu).2.2⟩, g.tsort⟩
theorem CG6 {r : L1} (h : goodRec r = true) (hk : r.Kind = 1) : r.Yes = false := by
  unfold goodRec at h
  rw [if_pos hk] at h
  unfold good1 at h
  simp only [Bool.and_eq_true, Bool.not_eq_true'] at h
  exact h.2
theorem Bg7 {r : L1} (h : goodRec r = true) : 0 ≤ r.Time ∧ r.Time ≤ 100000 := (goodR h).time
theorem hRec_hOf {r : L1} (h : goodRec r = true) (hk : r.Kind = 1) : hRec (hOf r) = r := by
  have := CG6 h hk
  unfold hRec hOf
  cases r; simp_all
theorem hWs_ins {h : E3} {l : List E3} {w : A9} : w ∈ hWs (insH h l) ↔ w ∈ hWs l ++ h.Writes := by
  rw [AO8, List.mem_append, AO8]
  constructor
  · rintro ⟨x, hx, hw⟩
    rcases AJ2.1 hx with rfl | hx
    · exact Or.inr hw
    · exact Or.inl ⟨x, hx, hw⟩
  · rintro (⟨x, hx, hw⟩ | hw)
    · exact ⟨x, AJ2.2 (Or.inr hx), hw⟩
    · exact ⟨h, AJ2.2 (Or.inl rfl), hw⟩
theorem fits_iff {s : G2} {rs : List Str} {ws : List A9} : fits s rs ws = true ↔ (∀ h ∈ s.Held, apart h rs ws = true) ∧ s.Held.length < 12 ∧ room s.Cells (hWs s.Held ++ ws) = true := by
  unfold fits; simp only [Bool.and_eq_true, List.all_eq_true, decide_eq_true_eq]
theorem By7 {s : G2} (g : GS s) {r : L1} (hr : goodRec r = true) (hk : r.Kind = 1) (hh : hasH s.Held r.Txn = false) (hT : hasT s.Told r.Txn = false) (ht : s.Floor < r.Time) (hf : fits s r.Reads r.Writes = true) :
    GS ⟨r.Time, s.Cells, insH (hOf r) s.Held, s.Told⟩ := by
  obtain ⟨f1, f2, f3⟩ := fits_iff.1 hf
  have htm := Bg7 hr
  have h0 := g.floor.1
  have hnh := AJ3.1 hh
  have hnt := BC4.1 hT
  refine ⟨⟨htm.1, htm.2⟩, g.cells, fun h hm => ?_, Ap5 g.hsort hnh, ?_, ?_, ?_, g.tlen, fun c hc => ?_, fun t hm => ⟨(g.told t hm).1, Aj0 (by dsimp only; omega) (g.told t hm).2.1, ?_⟩, g.tsort⟩
  · rcases AJ2.1 hm with rfl | hm
    · refine ⟨by rw [hRec_hOf hr hk]; exact hr, Int.le_refl _, fun w hw => ?_⟩
      have := Bu5 g w.Key
      show lastTime s.Cells w.Key < r.Time
      omega
    · obtain ⟨g1, g2, g3⟩ := g.good h hm
      exact ⟨g1, by dsimp only; omega, g3⟩
  · refine ((AR7 (hOf r) s.Held).pairwise_iff (fun {x y} hxy => Ap2 hxy)).2 (List.pairwise_cons.2 ⟨fun y hy => Ap2 (f1 y hy), g.apart⟩)
  · rw [(AR7 _ _).length_eq, H4]; omega
  · rw [BU2 fun w => hWs_ins]; exact f3
  · have := g.last c hc; dsimp only; omega
  · refine AJ3.2 fun h hm e => ?_
    rcases AJ2.1 hm with rfl | hm
    · exact hnt t ‹_› e.symm
    · exact AJ3.1 (g.told t ‹_›).2.2 h hm e
theorem BG3 {s : G2} (g : GS s) {n fl : Int} {q : List C5} {t : M1} (hn : t.Txn = n) (hx : isTxnR n = true) (hT : hasT s.Told n = false) (hfl : s.Floor ≤ fl ∧ fl ≤ 100000) (hq : goodCells q = true) (hlast : ∀ c ∈ q, lastTime q c.Key ≤ fl)
    (hkeep : ∀ k ∈ lessH s.Held n, ∀ w ∈ k.Writes, findC q w.Key = findC s.Cells w.Key) (hkeys : ∀ k ∈ i9 q, k ∈ i9 s.Cells ∨ k ∈ O8 (hWs s.Held)) (htf : (if t.Yes = true then within t.Time 1 fl else t.Time == 0) = true) : GS ⟨fl, q, lessH s.Held n, insT t s.Told⟩ := by
  have h0 := g.floor.1
  have hnt := BC4.1 hT
  have hsub : (lessH s.Held n).Sublist s.Held := List.filter_sublist
  have htl : ∀ u ∈ insT t s.Told, isTxnR u.Txn = true ∧ tFits ⟨fl, q, lessH s.Held n, insT t s.Told⟩ u = true ∧ hasH (lessH s.Held n) u.Txn = false := fun u hu => by
    rcases Bg6.1 hu with rfl | hu
    · exact ⟨hn ▸ hx, htf, AJ3.2 fun h hm e => (AD7.1 hm).2 (e.trans hn)⟩
    · obtain ⟨a, b, c⟩ := g.told u hu
      exact ⟨a, Aj0 hfl.1 b, AJ3.2 fun h hm e => AJ3.1 c h (AD7.1 hm).1 e⟩
  have hts := Ap6 (h := t) g.tsort fun u hu => by rw [hn]; exact hnt u hu
  refine ⟨⟨by dsimp only; omega, hfl.2⟩, hq, fun h hm => ?_, g.hsort.sublist hsub, g.apart.sublist hsub, Nat.le_trans hsub.length_le g.hlen, ?_, ?_, hlast, htl, hts⟩
  · obtain ⟨g1, g2, g3⟩ := g.good h (AD7.1 hm).1
    exact ⟨g1, by dsimp only; omega, fun w hw => by rw [show lastTime q w.Key = _ from Ae2 (hkeep h hm w hw)]; exact g3 w hw⟩
  · have hr := g.room
    unfold room at hr ⊢
    simp only [Bool.and_eq_true, List.all_eq_true, decide_eq_true_eq] at hr ⊢
    refine ⟨fun w hw => ?_, Nat.le_trans (Ap3 fun k hk => ?_) hr.2⟩
    · obtain ⟨h, hm, hwh⟩ := AO8.1 hw
      rw [Bo2 (hkeep h hm w hwh)]
      exact hr.1 w (AO8.2 ⟨h, (AD7.1 hm).1, hwh⟩)
    · rcases hk with hk | hk
      · exact hkeys k hk
      · refine Or.inr ?_
        unfold O8 at hk ⊢
        obtain ⟨w, hw, e⟩ := List.mem_map.1 hk
        obtain ⟨h, hm, hwh⟩ := AO8.1 hw
        exact List.mem_map.2 ⟨w, AO8.2 ⟨h, (AD7.1 hm).1, hwh⟩, e⟩
  · have := BG2 (a := 0) hts fun u hu => by have := By6.1 (htl u hu).1; omega
    exact this
theorem put_keys {l q : List C5} {w : List A9} {t : Int} (hw : (w.map A9.Key).Nodup) (hl : adj cLess l = true) (hq : adj cLess q = true) (h : putAll l w t = some q) : ∀ k ∈ i9 q, k ∈ i9 l ∨ k ∈ O8 w := fun k hk => by
  obtain ⟨h1, h2⟩ := Ai9 hw hl h
  by_cases hm : k ∈ w.map A9.Key
  · exact Or.inr hm
  · left
    unfold i9 at hk
    obtain ⟨c, hc, e⟩ := List.mem_map.1 hk
    obtain ⟨i, hi⟩ := List.getElem?_of_mem hc
    have h3 := findC_at hq hi
    rw [e, h2 k hm] at h3
    obtain ⟨h4, h5⟩ := BU6 h3
    exact List.mem_map.2 ⟨c, h4, e⟩
theorem put_last {l q : List C5} {w : List A9} {t : Int} (hw : (w.map A9.Key).Nodup) (hl : adj cLess l = true) (h : putAll l w t = some q) (k : Str) : lastTime q k = t ∨ lastTime q k = lastTime l k := by
  obtain ⟨h1, h2⟩ := Ai9 hw hl h
  by_cases hm : k ∈ w.map A9.Key
  · obtain ⟨x, hx, e⟩ := List.mem_map.1 hm
    have := h1 x hx
    rw [e] at this
    left; unfold lastTime lastV; rw [this]; simp
  · right; exact Ae2 (h2 k hm)
theorem AT8 {l : List E3} {n : Int} {h : E3} (e : findH l n = some h) : h ∈ l ∧ h.Txn = n := by
  unfold findH at e
  exact ⟨List.mem_of_find?_eq_some e, by simpa using List.find?_some e⟩
theorem BG4 {l : List E3} {n : Int} : findH l n = none ↔ hasH l n = false := by
  unfold findH hasH; rw [List.find?_eq_none, List.any_eq_false]
theorem Bo3 {s : G2} (g : GS s) {h : E3} (hm : h ∈ s.Held) : goodWrites h.Writes = true := by
  have := (g.good h hm).1
  unfold goodRec hRec at this
  rw [if_pos rfl] at this
  unfold good1 at this
  simp only [Bool.and_eq_true] at this
  exact this.1.1.2
theorem By8 {s : G2} (g : GS s) {h k : E3} (hh : h ∈ s.Held) (hk : k ∈ s.Held) (hne : k.Txn ≠ h.Txn) : apart k h.Reads h.Writes = true := by
  obtain ⟨i, hi⟩ := List.getElem?_of_mem hh
  obtain ⟨j, hj⟩ := List.getElem?_of_mem hk
  obtain ⟨i1, i2⟩ := List.getElem?_eq_some_iff.1 hi
  obtain ⟨j1, j2⟩ := List.getElem?_eq_some_iff.1 hj
  have hp := List.pairwise_iff_getElem.1 g.apart
  rcases Nat.lt_trichotomy i j with h1 | h1 | h1
  · have := hp i j i1 j1 h1
    rw [i2, j2] at this; exact Ap2 this
  · subst h1; rw [hi] at hj; injection hj with hj; exact (hne (by rw [hj])).elim
  · have := hp j i j1 i1 h1
    rw [i2, j2] at this; exact this
theorem gs_yes {s : G2} (g : GS s) {h : E3} (hm : h ∈ s.Held) {t : Int} (hx : isTxnR h.Txn = true) (hT : hasT s.Told h.Txn = false) (ht : h.Time ≤ t ∧ t ≤ 100000) {q : List C5} (hp : putAll s.Cells h.Writes t = some q) (hq : goodCells q = true) :
    GS ⟨if s.Floor < t then t else s.Floor, q, lessH s.Held h.Txn, insT ⟨h.Txn, true, t⟩ s.Told⟩ := by
  have hw := Bg4 (Bo3 g hm)
  have ha := (g8 g.cells).2.1
  have hqa := (g8 hq).2.1
  have h0 := g.floor
  have ht1 : 1 ≤ h.Time := by
    have := (g.good h hm).1
    unfold goodRec hRec at this
    rw [if_pos rfl] at this
    unfold good1 w4 within at this
    simp only [Bool.and_eq_true, decide_eq_true_eq] at this
    omega
  refine BG3 g rfl hx hT (by split <;> omega) hq (fun c hc => ?_) (fun k hk w hwk => ?_) (fun k hk => ?_) ?_
  · rcases put_last hw ha hp c.Key with e | e
    · rw [e]; split <;> omega
    · rw [e]; have := Bu5 g c.Key; split <;> omega
  · obtain ⟨k1, k2⟩ := AD7.1 hk
    refine (Ai9 hw ha hp).2 _ fun hmem => ?_
    obtain ⟨v, hv, e⟩ := List.mem_map.1 hmem
    exact ((AR6.1 (By8 g hm k1 k2)).2 v hv).1 w hwk e.symm
  · rcases put_keys hw ha hqa hp k hk with e | e
    · exact Or.inl e
    · refine Or.inr ?_
      unfold O8 at e ⊢
      obtain ⟨w, hw2, e⟩ := List.mem_map.1 e
      exact List.mem_map.2 ⟨w, AO8.2 ⟨h, hm, hw2⟩, e⟩
  · rw [if_pos rfl]; unfold within; simp only [Bool.and_eq_true, decide_eq_true_eq]; split <;> omega
theorem good2_of {r : L1} (h : goodRec r = true) (h4 : r.Kind ≠ 4) (h1 : r.Kind ≠ 1) : good2 r = true := by
  unfold goodRec at h
  rw [if_neg h1] at h
  split at h
  · exact h
  · cases h
theorem BO8 {l : List C5} {w : List A9} {t : Int} (h : (putP l w t).2 = true) : putAll l w t = some (putP l w t).1 ∧ goodCells (putP l w t).1 = true := by
  unfold putP at h ⊢
  cases hp : putAll l w t with
  | none => rw [hp] at h; cases h
  | some q => rw [hp] at h; dsimp only at h ⊢; exact ⟨rfl, by rw [g7]; exact h⟩
theorem gs_apply {s : G2} (g : GS s) {r : L1} (hr : goodRec r = true) (h : (applyS s r).2 = true) : GS (applyS s r).1 := by
  have htm := Bg7 hr
  unfold applyS at h ⊢
  by_cases h4 : r.Kind = 4
  · rw [if_pos h4] at h ⊢
    exact gs_floor g (by have := of_decide_eq_true h; omega) htm.2
  · rw [if_neg h4] at h ⊢
    by_cases hT : hasT s.Told r.Txn = true
    · rw [if_pos hT] at h; cases h
    · rw [if_neg hT] at h ⊢
      rw [Bool.not_eq_true] at hT
      by_cases h1 : r.Kind = 1
      · rw [if_pos h1] at h ⊢
        simp only [Bool.and_eq_true, Bool.not_eq_true', decide_eq_true_eq] at h
        exact By7 g hr h1 h.1.1 hT h.1.2 h.2
      · rw [if_neg h1] at h ⊢
        have h2 := good2_of hr h4 h1
        unfold good2 at h2
        simp only [Bool.and_eq_true, Bool.or_eq_true, Bool.not_eq_true', beq_iff_eq] at h2
        obtain ⟨⟨_, hx⟩, h3⟩ := h2
        by_cases hy : r.Yes = true
        · rw [if_pos hy] at h ⊢
          cases hf : findH s.Held r.Txn with
          | none => rw [hf] at h; cases h
          | some k =>
            rw [hf] at h
            dsimp only at h ⊢
            by_cases hlt : r.Time < k.Time
            · rw [if_pos hlt] at h; cases h
            · rw [if_neg hlt] at h ⊢
              by_cases hp : (putP s.Cells k.Writes r.Time).2 = true
              · rw [if_pos hp]
                obtain ⟨p1, p2⟩ := BO8 hp
                obtain ⟨k1, k2⟩ := AT8 hf
                have := gs_yes g k1 (t := r.Time) (by rw [k2]; exact hx) (by rw [k2]; exact hT) ⟨by omega, htm.2⟩ p1 p2
                rw [k2] at this
                unfold AG3; rw [hy]; exact this
              · rw [if_neg hp] at h; cases h
        · rw [if_neg hy]
          rw [Bool.not_eq_true] at hy
          rw [hy] at h3
          simp only [Bool.false_eq_true, false_and, true_and, false_or] at h3
          have h0 := g.floor
          unfold AG3
          refine BG3 g rfl hx hT ⟨Int.le_refl _, h0.2⟩ g.cells g.last (fun _ _ _ _ => rfl) (fun k hk => Or.inl hk) ?_
          rw [hy, h3]; rfl
theorem Av6 : GS d3 where
  floor := by decide
  cells := by decide
  good := fun h hm => by cases hm
  hsort := List.Pairwise.nil
  apart := List.Pairwise.nil
  hlen := by decide
  room := by
    unfold room roomKs
    rw [Bool.and_eq_true]
    refine ⟨rfl, decide_eq_true ?_⟩
    exact Nat.le_trans (AZ8 _) D3
  tlen := by decide
  last := fun c hc => by cases hc
  told := fun t ht => by cases ht
  tsort := List.Pairwise.nil
theorem gs_step {s : G2} (g : GS s) {r : L1} (hr : goodRec r = true) : GS (o9 s r) := by
  unfold o9
  split
  · exact gs_apply g hr ‹_›
  · exact g
theorem Bu6 : ∀ {l : List L1} {s : G2}, GS s → (∀ r ∈ l, goodRec r = true) → GS (stFrom s l)
  | [], s, g, _ => g
  | r :: l, s, g, h => by
    show GS (stFrom (o9 s r) l)
    exact Bu6 (gs_step g (h r List.mem_cons_self)) fun x hx => h x (List.mem_cons_of_mem _ hx)
def settled (s : G2) : Int := s.Held.foldl (fun o h => min o (h.Time - 1)) s.Floor
structure Av8 (s s' : G2) : Prop where
  floor : s.Floor ≤ s'.Floor
  told : ∀ t ∈ s.Told, t ∈ s'.Told
  tlen : s.Told.length ≤ s'.Told.length
  settled : settled s ≤ settled s'
  cells : ∀ a, a ≤ M.settled s → Bw2 s'.Cells a = Bw2 s.Cells a
theorem Av8.refl (s : G2) : Av8 s s := ⟨Int.le_refl _, fun _ h => h, Nat.le_refl _, Int.le_refl _, fun _ _ => rfl⟩
theorem Av8.trans {a b c : G2} (h : Av8 a b) (k : Av8 b c) : Av8 a c :=
  ⟨Int.le_trans h.floor k.floor, fun t ht => k.told t (h.told t ht), Nat.le_trans h.tlen k.tlen, Int.le_trans h.settled k.settled, fun x hx => (k.cells x (Int.le_trans hx h.settled)).trans (h.cells x hx)⟩
def keyD : List Str := [[97], [98], [99], [109], [110], [122], [114, 47, 49], [105, 47, 120, 47, 49]]
def valD : List Str := [[], [49], [55], [49, 48], [45, 51], [120], [97, 44, 98, 95, 99]]
def keyS : List Str := [[97], [98], [99], [105, 47, 120, 47, 49], [109], [110], [114, 47, 49], [122]]
theorem r5 {k : Str} (h : k ∈ keyD) : goodKey k = true ∧ k.length ≤ 5 := by
  have : ∀ k ∈ keyD, goodKey k = true ∧ k.length ≤ 5 := by decide
  exact this k h
theorem CG7 {k : Str} (h : k ∈ keyS) : goodKey k = true ∧ k.length ≤ 5 := by
  have : ∀ k ∈ keyS, goodKey k = true ∧ k.length ≤ 5 := by decide
  exact this k h
theorem keyS_srt : n1 keyS := by unfold n1; decide
def logOk (t : Int) : Int → List J1 → Bool
  | _, [] => true
  | p, e :: l => (within e.Term p t && goodRec e.Rec) && logOk t e.Term l
def goodRep (r : E6) (t : Int) : Bool := (decide ((r.Log.length : Int) ≤ 60) && within r.Sure 0 r.Log.length) && logOk t 1 r.Log
def AE7 (n : Int) : Bool := n == 3 || n == 5
def isRep (g : TGroup) (r : Int) : Bool := within r 0 ((g.Reps.length : Int) - 1)
def repAt (g : TGroup) (r : Int) : E6 := (g.Reps[r.toNat]?).getD ⟨false, [], 0⟩
def goodGroup (g : TGroup) : Bool := ((AE7 g.Reps.length && within g.Term 0 200) && (g.Lead == -1 || (isRep g g.Lead && (repAt g g.Lead).Up))) && g.Reps.all fun r => goodRep r g.Term
def zGroup : TGroup := ⟨[], 0, 0⟩
structure GR (r : E6) (t : Int) : Prop where
  len : r.Log.length ≤ 60
  sure : 0 ≤ r.Sure ∧ r.Sure ≤ r.Log.length
  ents : ∀ e ∈ r.Log, 1 ≤ e.Term ∧ e.Term ≤ t ∧ goodRec e.Rec = true
  sorted : r.Log.Pairwise fun a b => a.Term ≤ b.Term
structure GG (g : TGroup) : Prop where
  many : g.Reps.length = 3 ∨ g.Reps.length = 5
  term : 0 ≤ g.Term ∧ g.Term ≤ 200
  lead : g.Lead = -1 ∨ (0 ≤ g.Lead ∧ g.Lead < g.Reps.length ∧ (repAt g g.Lead).Up = true)
  reps : ∀ r ∈ g.Reps, GR r g.Term
theorem BU7 {t : Int} : ∀ {l : List J1} {p : Int}, logOk t p l = true ↔ (∀ e ∈ l, p ≤ e.Term ∧ e.Term ≤ t ∧ goodRec e.Rec = true) ∧ l.Pairwise fun a b => a.Term ≤ b.Term
  | [], p => by simp [logOk]
  | e :: l, p => by
    unfold logOk within
    rw [Bool.and_eq_true, Bool.and_eq_true, Bool.and_eq_true, decide_eq_true_eq, decide_eq_true_eq, BU7, List.pairwise_cons]
    constructor
    · rintro ⟨⟨⟨h1, h2⟩, h3⟩, h4, h5⟩
      refine ⟨fun x hx => ?_, fun x hx => (h4 x hx).1, h5⟩
      rcases List.mem_cons.1 hx with rfl | hx
      · exact ⟨h1, h2, h3⟩
      · have := h4 x hx; exact ⟨by omega, this.2⟩
    · rintro ⟨h1, h2, h3⟩
      have h0 := h1 e List.mem_cons_self
      exact ⟨⟨⟨h0.1, h0.2.1⟩, h0.2.2⟩, fun x hx => ⟨h2 x hx, (h1 x (List.mem_cons_of_mem _ hx)).2⟩, h3⟩
theorem Bo4 {r : E6} {t : Int} : goodRep r t = true ↔ GR r t := by
  unfold goodRep within
  simp only [Bool.and_eq_true, decide_eq_true_eq, BU7]
  constructor
  · rintro ⟨⟨h1, h2, h3⟩, h4, h5⟩; exact ⟨by omega, ⟨h2, h3⟩, h4, h5⟩
  · rintro ⟨h1, ⟨h2, h3⟩, h4, h5⟩; exact ⟨⟨by omega, h2, h3⟩, h4, h5⟩
theorem AR8 {g : TGroup} {r : Int} : isRep g r = true ↔ 0 ≤ r ∧ r < g.Reps.length := by
  unfold isRep within; simp only [Bool.and_eq_true, decide_eq_true_eq]; omega
theorem p6 {g : TGroup} : goodGroup g = true ↔ GG g := by
  unfold goodGroup AE7 within
  simp only [Bool.and_eq_true, Bool.or_eq_true, decide_eq_true_eq, beq_iff_eq, List.all_eq_true, Bo4, AR8]
  constructor
  · rintro ⟨⟨⟨h1, h2⟩, h3⟩, h4⟩
    refine ⟨by omega, h2, ?_, h4⟩
    rcases h3 with h | ⟨⟨h, k⟩, l⟩
    · exact .inl h
    · exact .inr ⟨h, k, l⟩
  · rintro ⟨h1, h2, h3, h4⟩
    refine ⟨⟨⟨by omega, h2⟩, ?_⟩, h4⟩
    rcases h3 with h | ⟨h, k, l⟩
    · exact .inl h
    · exact .inr ⟨⟨h, k⟩, l⟩
theorem Z5 {g : TGroup} {r : Int} (h : 0 ≤ r ∧ r < g.Reps.length) : g.Reps[r.toNat]? = some (repAt g r) := by
  unfold repAt
  rw [List.getElem?_eq_getElem (show r.toNat < g.Reps.length by omega)]; rfl
theorem repAt_of {g : TGroup} {r : Int} {x : E6} (h : g.Reps[r.toNat]? = some x) : repAt g r = x := by unfold repAt; rw [h]; rfl
theorem d9 {g : TGroup} {r : Int} (h : 0 ≤ r ∧ r < g.Reps.length) : repAt g r ∈ g.Reps := C4 (Z5 h)
def setRep (g : TGroup) (r : Int) (x : E6) : TGroup := ⟨g.Reps.set r.toNat x, g.Term, g.Lead⟩
def isUp (g : TGroup) (r : Int) (up : Bool) : Bool := (goodGroup g && isRep g r) && ((repAt g r).Up == up)
def crashR (g : TGroup) (r : Int) : TGroup × Bool :=
  if isUp g r true = true then (⟨g.Reps.set r.toNat ⟨false, (repAt g r).Log, (repAt g r).Sure⟩, g.Term, if g.Lead = r then -1 else g.Lead⟩, true) else (zGroup, false)
def startR (g : TGroup) (r : Int) : TGroup × Bool :=
  if isUp g r false = true then (⟨g.Reps.set r.toNat ⟨true, (repAt g r).Log, (repAt g r).Sure⟩, g.Term, g.Lead⟩, true) else (zGroup, false)
def s8 (l : List J1) : Int := match l.getLast? with | some e => e.Term | none => 0
def AP7 (a b : List J1) : Bool := decide (s8 b < s8 a) || (s8 a == s8 b && decide (b.length < a.length))
def At1 (g : TGroup) (p : E6 → Bool) : Bool := decide ((g.Reps.length : Int) < 2 * ((g.Reps.filter p).length : Int))
def electR (g : TGroup) (r : Int) : TGroup × Bool :=
  if (isUp g r true && !(g.Term == 200)) = true ∧ At1 g (fun x => x.Up && !AP7 x.Log (repAt g r).Log) = true then (⟨g.Reps, g.Term + 1, r⟩, true) else (zGroup, false)
def hasLead (g : TGroup) : Bool := goodGroup g && decide (0 ≤ g.Lead)
def d7 (g : TGroup) (r : L1) : TGroup × Bool :=
  if (hasLead g && goodRec r) = true ∧ (repAt g g.Lead).Log.length < 60 then (setRep g g.Lead ⟨(repAt g g.Lead).Up, (repAt g g.Lead).Log ++ [⟨g.Term, r⟩], (repAt g g.Lead).Sure⟩, true) else (zGroup, false)
def j0 (g : TGroup) (r : Int) : TGroup × Bool :=
  if (isUp g r true && decide (0 ≤ g.Lead)) = true ∧ g.Lead ≠ r then (setRep g r ⟨true, (repAt g g.Lead).Log, min ((repAt g g.Lead).Log.length : Int) (max (repAt g r).Sure (repAt g g.Lead).Sure)⟩, true) else (zGroup, false)
def begins (a b : List J1) (n : Nat) : Bool := decide (n ≤ a.length ∧ n ≤ b.length ∧ a.take n = b.take n)
def AN6 (g : TGroup) (n : Nat) : Bool := decide ((((repAt g g.Lead).Log[n - 1]?).map J1.Term) = some g.Term) && At1 g fun x => begins x.Log (repAt g g.Lead).Log n
def findDown (p : Nat → Bool) (lo : Nat) : Nat → Option Nat
  | 0 => none
  | n + 1 => if n + 1 ≤ lo then none else if p (n + 1) = true then some (n + 1) else findDown p lo n
def n7 (g : TGroup) : TGroup × Bool :=
  if hasLead g = true then (match findDown (AN6 g) (repAt g g.Lead).Sure.toNat (repAt g g.Lead).Log.length with
    | some n => (setRep g g.Lead ⟨(repAt g g.Lead).Up, (repAt g g.Lead).Log, (n : Int)⟩, true)
    | none => (g, true)) else (zGroup, false)
theorem Al6 {p : Nat → Bool} {lo : Nat} : ∀ {k n : Nat}, findDown p lo k = some n → lo < n ∧ n ≤ k ∧ p n = true
  | 0, n, h => by cases h
  | k + 1, n, h => by
    unfold findDown at h
    split at h
    · cases h
    · split at h
      · injection h with h; subst h; exact ⟨by omega, Nat.le_refl _, ‹_›⟩
      · have := Al6 h; exact ⟨this.1, by omega, this.2.2⟩
theorem AD8 {g : TGroup} {r : Int} {up : Bool} : isUp g r up = true ↔ GG g ∧ (0 ≤ r ∧ r < g.Reps.length) ∧ (repAt g r).Up = up := by
  unfold isUp
  rw [Bool.and_eq_true, Bool.and_eq_true, p6, AR8, beq_iff_eq]
  constructor
  · rintro ⟨⟨a, b⟩, c⟩; exact ⟨a, b, c⟩
  · rintro ⟨a, b, c⟩; exact ⟨⟨a, b⟩, c⟩
theorem AH5 {g : TGroup} : hasLead g = true ↔ GG g ∧ 0 ≤ g.Lead ∧ g.Lead < g.Reps.length ∧ (repAt g g.Lead).Up = true := by
  unfold hasLead
  rw [Bool.and_eq_true, p6, decide_eq_true_eq]
  constructor
  · rintro ⟨a, b⟩
    rcases a.lead with h | ⟨h1, h2, h3⟩
    · omega
    · exact ⟨a, h1, h2, h3⟩
  · rintro ⟨a, b, _⟩; exact ⟨a, b⟩
theorem BO9 {g : TGroup} {r : Int} {x : E6} {t l : Int} (h : 0 ≤ r ∧ r < g.Reps.length) : repAt ⟨g.Reps.set r.toNat x, t, l⟩ r = x := by
  unfold repAt
  dsimp only
  rw [List.getElem?_set_self qz8]; rfl
theorem AW9 {g : TGroup} {r q : Int} {x : E6} {t l : Int} (hr : 0 ≤ r) (hq : 0 ≤ q) (h : q ≠ r) : repAt ⟨g.Reps.set r.toNat x, t, l⟩ q = repAt g q := by
  unfold repAt
  dsimp only
  rw [List.getElem?_set_ne qz8]
theorem gr_mono {r : E6} {t u : Int} (h : GR r t) (k : t ≤ u) : GR r u := ⟨h.len, h.sure, fun e he => by have := h.ents e he; exact ⟨this.1, by omega, this.2.2⟩, h.sorted⟩
theorem BC5 {g : TGroup} (h : GG g) {r : Int} {x : E6} (hx : GR x g.Term) : ∀ y ∈ g.Reps.set r.toNat x, GR y g.Term := fun y hy => by
  rcases List.mem_or_eq_of_mem_set hy with hy | rfl
  · exact h.reps y hy
  · exact hx
theorem By9 {g : TGroup} {r : Int} (h : (crashR g r).2 = true) : GG (crashR g r).1 ∧ (crashR g r).1.Reps.length = g.Reps.length := by
  unfold crashR at h ⊢
  by_cases hc : isUp g r true = true
  · rw [if_pos hc] at h ⊢
    obtain ⟨gg, hr, hu⟩ := AD8.1 hc
    have hg := gg.reps _ (d9 hr)
    refine ⟨⟨?_, gg.term, ?_, BC5 gg ⟨hg.len, hg.sure, hg.ents, hg.sorted⟩⟩, List.length_set ..⟩
    · show (g.Reps.set _ _).length = 3 ∨ (g.Reps.set _ _).length = 5
      rw [List.length_set]; exact gg.many
    · dsimp only
      by_cases hl : g.Lead = r
      · rw [if_pos hl]; exact .inl rfl
      · rw [if_neg hl]
        rcases gg.lead with e | ⟨a, b, c⟩
        · exact .inl e
        · refine .inr ⟨a, by rw [List.length_set]; exact b, ?_⟩
          have := AW9 (g := g) (x := ⟨false, (repAt g r).Log, (repAt g r).Sure⟩) (t := g.Term) (l := g.Lead) hr.1 a hl
          rw [this]; exact c
  · rw [if_neg hc] at h; cases h
theorem Bz0 {g : TGroup} {r : Int} (h : (startR g r).2 = true) : GG (startR g r).1 ∧ (startR g r).1.Reps.length = g.Reps.length := by
  unfold startR at h ⊢
  by_cases hc : isUp g r false = true
  · rw [if_pos hc] at h ⊢
    obtain ⟨gg, hr, hu⟩ := AD8.1 hc
    have hg := gg.reps _ (d9 hr)
    refine ⟨⟨?_, gg.term, ?_, BC5 gg ⟨hg.len, hg.sure, hg.ents, hg.sorted⟩⟩, List.length_set ..⟩
    · show (g.Reps.set _ _).length = 3 ∨ (g.Reps.set _ _).length = 5
      rw [List.length_set]; exact gg.many
    · dsimp only
      rcases gg.lead with e | ⟨a, b, c⟩
      · exact .inl e
      · refine .inr ⟨a, by rw [List.length_set]; exact b, ?_⟩
        by_cases hl : g.Lead = r
        · rw [hl] at c; rw [hu] at c; cases c
        · have := AW9 (g := g) (x := ⟨true, (repAt g r).Log, (repAt g r).Sure⟩) (t := g.Term) (l := g.Lead) hr.1 a hl
          rw [this]; exact c
  · rw [if_neg hc] at h; cases h
theorem BG5 {g : TGroup} {r : Int} (h : (electR g r).2 = true) : GG (electR g r).1 ∧ (electR g r).1.Reps.length = g.Reps.length ∧ (electR g r).1.Lead = r ∧ 0 ≤ r ∧ r < g.Reps.length := by
  unfold electR at h ⊢
  split at h
  · rename_i hc
    rw [if_pos hc]
    rw [Bool.and_eq_true, Bool.not_eq_true', beq_eq_false_iff_ne] at hc
    obtain ⟨gg, hr, hu⟩ := AD8.1 hc.1.1
    have ht := gg.term
    exact ⟨⟨gg.many, by dsimp only; omega, .inr ⟨hr.1, hr.2, hu⟩, fun y hy => gr_mono (gg.reps y hy) (by dsimp only; omega)⟩, rfl, rfl, hr.1, hr.2⟩
  · cases h
theorem Ac4 {g : TGroup} (gg : GG g) {r : Int} (hr : 0 ≤ r ∧ r < g.Reps.length) {x : E6} (hx : GR x g.Term) (hu : x.Up = (repAt g r).Up) : GG (setRep g r x) := by
  refine ⟨?_, gg.term, ?_, BC5 gg hx⟩
  · show (g.Reps.set _ _).length = 3 ∨ (g.Reps.set _ _).length = 5
    rw [List.length_set]; exact gg.many
  · show g.Lead = -1 ∨ (0 ≤ g.Lead ∧ g.Lead < ((g.Reps.set r.toNat x).length : Int) ∧ (repAt ⟨g.Reps.set r.toNat x, g.Term, g.Lead⟩ g.Lead).Up = true)
    rcases gg.lead with e | ⟨a, b, c⟩
    · exact .inl e
    · refine .inr ⟨a, by rw [List.length_set]; exact b, ?_⟩
      by_cases hl : g.Lead = r
      · have := BO9 (g := g) (x := x) (t := g.Term) (l := g.Lead) hr
        rw [hl] at c this ⊢
        rw [this, hu]; exact c
      · have := AW9 (g := g) (x := x) (t := g.Term) (l := g.Lead) hr.1 a hl
        rw [this]; exact c
theorem Aj1 (g : TGroup) (r : Int) (x : E6) : (setRep g r x).Reps.length = g.Reps.length := List.length_set ..
theorem CG8 {g : TGroup} {r : L1} (ht : 1 ≤ g.Term) (h : (d7 g r).2 = true) : GG (d7 g r).1 ∧ (d7 g r).1.Reps.length = g.Reps.length ∧ (d7 g r).1.Lead = g.Lead := by
  unfold d7 at h ⊢
  split at h
  · rename_i hc
    rw [if_pos hc]
    rw [Bool.and_eq_true] at hc
    obtain ⟨gg, h1, h2, h3⟩ := AH5.1 hc.1.1
    have hg := gg.reps _ (d9 ⟨h1, h2⟩)
    refine ⟨Ac4 gg ⟨h1, h2⟩ ⟨?_, ?_, fun e he => ?_, ?_⟩ rfl, Aj1 .., rfl⟩
    · rw [G3]; have := hc.2; simp; omega
    · have := hg.sure; rw [G3]; simp; omega
    · rcases List.mem_append.1 he with he | he
      · exact hg.ents e he
      · rw [List.mem_singleton.1 he]
        exact ⟨ht, Int.le_refl _, hc.1.2⟩
    · rw [List.pairwise_append]
      exact ⟨hg.sorted, List.pairwise_singleton _ _, fun a ha b hb => by rw [List.mem_singleton.1 hb]; exact (hg.ents a ha).2.1⟩
  · cases h
theorem CG9 {g : TGroup} {r : Int} (h : (j0 g r).2 = true) : GG (j0 g r).1 ∧ (j0 g r).1.Reps.length = g.Reps.length ∧ (j0 g r).1.Lead = g.Lead := by
  unfold j0 at h ⊢
  split at h
  · rename_i hc
    rw [if_pos hc]
    rw [Bool.and_eq_true, decide_eq_true_eq] at hc
    obtain ⟨gg, hr, hu⟩ := AD8.1 hc.1.1
    have hl : 0 ≤ g.Lead ∧ g.Lead < g.Reps.length := by rcases gg.lead with e | ⟨a, b, _⟩; omega; exact ⟨a, b⟩
    have hg := gg.reps _ (d9 hl)
    have hq := gg.reps _ (d9 hr)
    refine ⟨Ac4 gg hr ⟨hg.len, ?_, hg.ents, hg.sorted⟩ hu.symm, Aj1 .., rfl⟩
    have h1 := hg.sure
    have h2 := hq.sure
    dsimp only
    omega
  · cases h
theorem adv_good {g : TGroup} (h : (n7 g).2 = true) : GG (n7 g).1 ∧ (n7 g).1.Reps.length = g.Reps.length ∧ (n7 g).1.Lead = g.Lead := by
  unfold n7 at h ⊢
  split at h
  · rename_i hc
    rw [if_pos hc]
    obtain ⟨gg, h1, h2, h3⟩ := AH5.1 hc
    have hg := gg.reps _ (d9 ⟨h1, h2⟩)
    split
    · rename_i n hn
      have := Al6 hn
      exact ⟨Ac4 gg ⟨h1, h2⟩ ⟨hg.len, ⟨by dsimp only; omega, by dsimp only; omega⟩, hg.ents, hg.sorted⟩ rfl, Aj1 .., rfl⟩
    · exact ⟨gg, rfl, rfl⟩
  · cases h
theorem Aj2 {g : TGroup} {r : Int} : ((crashR g r).2 = true → (crashR g r).1.Term = g.Term) ∧ ((startR g r).2 = true → (startR g r).1.Term = g.Term) ∧ ((electR g r).2 = true → (electR g r).1.Term = g.Term + 1) ∧ ((j0 g r).2 = true → (j0 g r).1.Term = g.Term) := by
  unfold crashR startR electR j0 setRep
  refine ⟨?_, ?_, ?_, ?_⟩ <;> (split <;> intro h <;> first | rfl | cases h)
theorem CH0 {g : TGroup} {r : L1} (h : (d7 g r).2 = true) : (d7 g r).1.Term = g.Term := by
  unfold d7 setRep at *
  split <;> first | rfl | (rename_i hc; rw [if_neg hc] at h; cases h)
theorem adv_term {g : TGroup} (h : (n7 g).2 = true) : (n7 g).1.Term = g.Term := by
  unfold n7 setRep at *
  split at h
  · rw [if_pos ‹_›]; split <;> rfl
  · cases h
theorem Bz1 {g : TGroup} {r : Int} (h : (crashR g r).2 = true) : (crashR g r).1.Lead = -1 ∨ (crashR g r).1.Lead = g.Lead := by
  unfold crashR at h ⊢
  split at h
  · rw [if_pos ‹_›]; dsimp only; split; exact .inl rfl; exact .inr rfl
  · cases h
theorem Bz2 {g : TGroup} {r : Int} (h : (startR g r).2 = true) : (startR g r).1.Lead = g.Lead := by
  unfold startR at h ⊢
  split at h
  · rw [if_pos ‹_›]
  · cases h
def p3 (P : L1 → Prop) (g : TGroup) : Prop := ∀ r ∈ g.Reps, ∀ e ∈ r.Log, P e.Rec
theorem AR9 {P : L1 → Prop} {g : TGroup} (h : p3 P g) (r : Int) : ∀ e ∈ (repAt g r).Log, P e.Rec := by
  intro e he
  unfold repAt at he
  cases hx : g.Reps[r.toNat]? with
  | none => rw [hx] at he; cases he
  | some x => rw [hx] at he; exact h x (C4 hx) e he
theorem Ae3 {P : L1 → Prop} {g : TGroup} (h : p3 P g) {r : Int} {x : E6} (hx : ∀ e ∈ x.Log, P e.Rec) {t l : Int} : p3 P ⟨g.Reps.set r.toNat x, t, l⟩ := by
  intro y hy
  rcases List.mem_or_eq_of_mem_set hy with hy | rfl
  · exact h y hy
  · exact hx
theorem AF5 {P : L1 → Prop} : p3 P zGroup := fun r hr => by cases hr
theorem CH1 {P : L1 → Prop} {g : TGroup} {r : Int} (h : p3 P g) : p3 P (crashR g r).1 := by
  unfold crashR
  split
  · refine Ae3 h ?_; exact AR9 h r
  · exact AF5
theorem CH2 {P : L1 → Prop} {g : TGroup} {r : Int} (h : p3 P g) : p3 P (startR g r).1 := by
  unfold startR
  split
  · refine Ae3 h ?_; exact AR9 h r
  · exact AF5
theorem CH3 {P : L1 → Prop} {g : TGroup} {r : Int} (h : p3 P g) : p3 P (electR g r).1 := by
  unfold electR
  split
  · exact h
  · exact AF5
theorem put_log {P : L1 → Prop} {g : TGroup} {r : L1} (h : p3 P g) (hr : P r) : p3 P (d7 g r).1 := by
  unfold d7
  split
  · refine Ae3 h fun e he => ?_
    rcases List.mem_append.1 he with he | he
    · exact AR9 h _ e he
    · rw [List.mem_singleton.1 he]; exact hr
  · exact AF5
theorem copy_log {P : L1 → Prop} {g : TGroup} {r : Int} (h : p3 P g) : p3 P (j0 g r).1 := by
  unfold j0
  split
  · refine Ae3 h ?_; exact AR9 h g.Lead
  · exact AF5
theorem adv_log {P : L1 → Prop} {g : TGroup} (h : p3 P g) : p3 P (n7 g).1 := by
  unfold n7
  split
  · split
    · refine Ae3 h ?_; exact AR9 h g.Lead
    · exact h
  · exact AF5
def BL4 (r : L1) : Prop := ∀ w ∈ r.Writes, w.Key ∈ keyD
structure WG (g : TGroup) : Prop where
  good : GG g
  three : g.Reps.length = 3
  led : 0 ≤ g.Lead → 1 ≤ g.Term
  keys : p3 BL4 g
theorem wg_crash {g : TGroup} {r : Int} (w : WG g) (h : (crashR g r).2 = true) : WG (crashR g r).1 := by
  have h1 := By9 h
  refine ⟨h1.1, h1.2.trans w.three, fun hl => ?_, CH1 w.keys⟩
  have := w.led
  rw [(Aj2 (g := g) (r := r)).1 h]
  rcases Bz1 h with e | e <;> rw [e] at hl
  · omega
  · exact this hl
theorem wg_start {g : TGroup} {r : Int} (w : WG g) (h : (startR g r).2 = true) : WG (startR g r).1 := by
  have h1 := Bz0 h
  refine ⟨h1.1, h1.2.trans w.three, fun hl => ?_, CH2 w.keys⟩
  rw [(Aj2 (g := g) (r := r)).2.1 h]
  rw [Bz2 h] at hl
  exact w.led hl
theorem wg_elect {g : TGroup} {r : Int} (w : WG g) (h : (electR g r).2 = true) : WG (electR g r).1 := by
  have h1 := BG5 h
  refine ⟨h1.1, h1.2.1.trans w.three, fun hl => ?_, CH3 w.keys⟩
  rw [(Aj2 (g := g) (r := r)).2.2.1 h]
  have := w.good.term
  omega
theorem wg_copy {g : TGroup} {r : Int} (w : WG g) (h : (j0 g r).2 = true) : WG (j0 g r).1 := by
  have h1 := CG9 h
  refine ⟨h1.1, h1.2.1.trans w.three, fun hl => ?_, copy_log w.keys⟩
  rw [(Aj2 (g := g) (r := r)).2.2.2 h]
  rw [h1.2.2] at hl
  exact w.led hl
theorem wg_put {g : TGroup} {r : L1} (w : WG g) (hl : 0 ≤ g.Lead) (hk : BL4 r) (h : (d7 g r).2 = true) : WG (d7 g r).1 := by
  have h1 := CG8 (w.led hl) h
  refine ⟨h1.1, h1.2.1.trans w.three, fun _ => ?_, put_log w.keys hk⟩
  rw [CH0 h]; exact w.led hl
theorem wg_adv {g : TGroup} (w : WG g) (h : (n7 g).2 = true) : WG (n7 g).1 := by
  have h1 := adv_good h
  refine ⟨h1.1, h1.2.1.trans w.three, fun hl => ?_, adv_log w.keys⟩
  rw [adv_term h]
  rw [h1.2.2] at hl
  exact w.led hl
end Go.M
namespace Go.M
end Go.M
namespace Go.M
open Go.AV
abbrev decD (n : Nat) : Str := Lib.decDigits n
abbrev AA6 (n : Int) : Str := Lib.itoa n
theorem AT9 {n : Nat} (h : n < 10) : decD n = [UInt8.ofNat (48 + n)] := Lib.decDigits_one h
theorem AX0 {n : Nat} (h : ¬ n < 10) : decD n = decD (n / 10) ++ [UInt8.ofNat (48 + n % 10)] := by
  show Lib.decDigits n = _
  rw [Lib.decDigits, dif_neg h]
theorem AX1 : ∀ {k n : Nat}, n < 10 ^ k → 1 ≤ k → (decD n).length ≤ k
  | 0, _, _, h => by omega
  | k + 1, n, h, _ => by
    by_cases hn : n < 10
    · rw [AT9 hn]; simp
    · rw [AX0 hn, G3]
      have : k ≠ 0 := by rintro rfl; simp at h; omega
      have h2 := AX1 (k := k) (n := n / 10) (by rw [Nat.pow_succ] at h; omega) qz8
      simp only [H4, M6]; omega
theorem BC6 (n : Nat) : AA6 n = decD n := Lib.itoa_nonneg n
theorem itoa_pos {n : Int} (h : 0 ≤ n) : AA6 n = decD n.toNat := by
  obtain ⟨m, rfl⟩ : ∃ m : Nat, n = (m : Int) := ⟨n.toNat, by omega⟩
  rw [BC6]; rfl
theorem u8w2 {x : Int} {m : Nat} (h : x % 256 = ((m % 256 : Nat) : Int)) : IntKind.u8.wrap x = ((UInt8.ofNat m).toNat : Int) := by
  have : (UInt8.ofNat m).toNat = m % 256 := by simp
  rw [this, ← h]
  simp [IntKind.wrap, IntKind.bits, IntKind.signed]
theorem dig1 (n : Nat) : IntKind.u8.wrap (48 + (n : Int)) = ((UInt8.ofNat (48 + n)).toNat : Int) := u8w2 qz8
theorem tmod10T (n : Nat) : (n : Int).tmod 10 = ((n % 10 : Nat) : Int) := rfl
theorem dig2 (n : Nat) : IntKind.u8.wrap (48 + (n : Int).tmod 10) = ((UInt8.ofNat (48 + n % 10)).toNat : Int) := by
  rw [show (n : Int).tmod 10 = ((n % 10 : Nat) : Int) from rfl]; exact u8w2 qz8
theorem quo10 {n : Nat} (h : n ≤ 1000000000000) : IntKind.i64.wrap ((n : Int).tdiv 10) = ((n / 10 : Nat) : Int) := by
  rw [show (n : Int).tdiv 10 = ((n / 10 : Nat) : Int) from rfl]
  have h2 : n / 10 ≤ 1000000000000 := by omega
  simp [IntKind.wrap, IntKind.bits, IntKind.signed]
  omega
def Ab0 (b : UInt8) : Bool := decide (48 ≤ b.toNat) && decide (b.toNat ≤ 57)
theorem decD_ne (n : Nat) : decD n ≠ [] := by
  by_cases h : n < 10
  · rw [AT9 h]; simp
  · rw [AX0 h]; simp
def V8 (n : Nat) : Str → Int
  | [] => n
  | b :: s => if Ab0 b = true then V8 (10 * n + (b.toNat - 48)) s else -1
def AY0 (s : Str) : Bool := !within s.length 1 6 || ((s.head?.map fun b => b == 48).getD false && decide ((1 : Int) < (s.length : Int)))
def l1R (s : Str) : Int := if AY0 s = true then -1 else V8 0 s
structure GoodC (c : Y8) : Prop where
  time : ∃ t : Nat, c.Time = (t : Int) ∧ 1 ≤ t ∧ t ≤ 100000
  group : ∃ g : Nat, c.Group = (g : Int) ∧ g ≤ 3
  key : 1 ≤ c.Key.length ∧ (32 : UInt8) ∉ c.Key ∧ (61 : UInt8) ∉ c.Key
  val : (32 : UInt8) ∉ c.Val ∧ (61 : UInt8) ∉ c.Val
  gone : c.Gone = true → c.Val = []
def AG4 (k : Int) : Bool := k == 2 || k == 7
def AN7 (k : Int) : Bool := k == 4 || k == 5
def isOp (o : TOp) : Bool := within o.Kind 1 7 && goodKey o.Key && goodVal o.Val && (AG4 o.Kind || o.Val == []) && within o.By (-9999) 9999 && (AN7 o.Kind || o.By == 0)
def goodOps (l : List TOp) : Bool := decide ((l.length : Int) ≤ 8) && !(l.any fun o => !isOp o)
def l5Op (o : TOp) : Bool := if l3Key o.Key = false then false else if AG4 o.Kind = true then l3Val o.Val && (o.By == 0) else if AN7 o.Kind = true then (o.Val == []) && within o.By (-9999) 9999 else (((o.Kind == 1 || o.Kind == 3) || o.Kind == 6) && o.Val == []) && (o.By == 0)
def l5Good (l : List TOp) : Bool := l.all l5Op && decide ((l.length : Int) ≤ 8)
theorem Bu7 (o : TOp) : isOp o = l5Op o := by
  obtain ⟨K, k, v, b⟩ := o
  unfold isOp l5Op AG4 AN7 within
  dsimp only
  rw [z6, BF4]
  have hv : l3Val [] = true := by decide
  cases hk : l3Key k with
  | false => simp
  | true =>
    simp only [Bool.and_true, Bool.true_eq_false, if_false]
    by_cases h2 : K = 2
    · subst h2; cases l3Val v <;> simp <;> (by_cases hb : b = 0 <;> simp [hb])
    · by_cases h7 : K = 7
      · subst h7; cases l3Val v <;> simp <;> (by_cases hb : b = 0 <;> simp [hb])
      · have e2 : (K == 2) = false := by simpa using h2
        have e7 : (K == 7) = false := by simpa using h7
        by_cases h4 : K = 4
        · subst h4; cases v <;> simp [hv]
        · by_cases h5 : K = 5
          · subst h5; cases v <;> simp [hv]
          · have e4 : (K == 4) = false := by simpa using h4
            have e5 : (K == 5) = false := by simpa using h5
            rw [e2, e7, e4, e5]
            cases v with
            | nil =>
              by_cases hb : b = 0
              · subst hb
                rw [Bool.eq_iff_iff]
                simp [hv]; omega
              · have eb : (b == 0) = false := by simpa using hb
                simp [eb]
            | cons c v => simp
theorem BG6 (l : List TOp) : goodOps l = l5Good l := by
  unfold goodOps l5Good
  rw [List.not_any_eq_all_not, Bool.and_comm]
  congr 1
  congr 1; funext o; rw [Bool.not_not, Bu7]
def l5N (s : Str) : Int × Bool :=
  if (decide (l1R (if s.head? = some 45 then s.drop 1 else s) < 0) || (decide (s.head? = some 45) && (l1R (if s.head? = some 45 then s.drop 1 else s) == 0))) = true then (0, false)
  else if s.head? = some 45 then (-(l1R (s.drop 1)), true) else (l1R s, true)
structure GoodO (o : TOp) : Prop where
  kind : 1 ≤ o.Kind ∧ o.Kind ≤ 7
  key : (32 : UInt8) ∉ o.Key ∧ (59 : UInt8) ∉ o.Key
  val : (32 : UInt8) ∉ o.Val ∧ (59 : UInt8) ∉ o.Val
  noval : AG4 o.Kind = false → o.Val = []
  noby : AN7 o.Kind = false → o.By = 0
  by' : -9999 ≤ o.By ∧ o.By ≤ 9999
theorem Aj3 {n : Nat} (h : 1 ≤ n) : AA6 (-(n : Int)) = 45 :: decD n := by
  show Lib.itoa _ = _
  unfold Lib.itoa
  rw [if_pos qz8]; simp
theorem Bz3 {l : List TOp} (h : goodOps l = true) : ∀ o ∈ l, isOp o = true := fun o ho => by
  rw [BG6] at h
  unfold l5Good at h
  rw [Bool.and_eq_true, List.all_eq_true] at h
  rw [Bu7]; exact h.1 o ho
theorem Bg8 {d : UInt8} : ∀ (s : Str) (m n : Nat), V8 m (s ++ [d]) = (n : Int) → ∃ v : Nat, V8 m s = (v : Int) ∧ (48 ≤ d.toNat ∧ d.toNat ≤ 57) ∧ n = 10 * v + (d.toNat - 48)
  | [], m, n, h => by
    simp only [List.nil_append, V8] at h
    split at h
    · rename_i hd
      refine ⟨m, rfl, ?_, by omega⟩
      unfold Ab0 at hd; simp at hd; omega
    · exfalso; omega
  | b :: s, m, n, h => by
    show ∃ v : Nat, (if Ab0 b = true then V8 (10 * m + (b.toNat - 48)) s else -1) = (v : Int) ∧ _
    have h2 : (if Ab0 b = true then V8 (10 * m + (b.toNat - 48)) (s ++ [d]) else -1) = (n : Int) := h
    split at h2
    · rename_i hb
      rw [if_pos hb]
      exact Bg8 s _ n h2
    · exfalso; omega
theorem rd_ge : ∀ (s : Str) (m n : Nat), V8 m s = (n : Int) → m ≤ n
  | [], m, n, h => by simp only [V8] at h; omega
  | b :: s, m, n, h => by
    simp only [V8] at h
    split at h
    · have := rd_ge s _ n h; omega
    · exfalso; omega
theorem u8_dig {d : UInt8} (h : 48 ≤ d.toNat ∧ d.toNat ≤ 57) : UInt8.ofNat (48 + (d.toNat - 48)) = d := by
  apply UInt8.toNat_inj.1
  simp; omega
theorem dec_of : ∀ (k : Nat) (s : Str) (n : Nat), s.length = k + 1 → V8 0 s = (n : Int) → (s.head? ≠ some 48 ∨ k = 0) → decD n = s
  | 0, s, n, hl, h, _ => by
    match s, hl with
    | [d], _ =>
      obtain ⟨v, h1, h2, h3⟩ := Bg8 [] 0 n h
      simp only [V8] at h1
      have hv : v = 0 := by omega
      subst hv
      rw [AT9 qz8, h3, show 48 + (10 * 0 + (d.toNat - 48)) = 48 + (d.toNat - 48) by omega, u8_dig h2]
  | k + 1, s, n, hl, h, hh => by
    have hne : s ≠ [] := by rintro rfl; simp at hl
    obtain ⟨t, d, rfl⟩ : ∃ t d, s = t ++ [d] := ⟨s.dropLast, s.getLast hne, (List.dropLast_concat_getLast hne).symm⟩
    have htl : t.length = k + 1 := by simpa using hl
    obtain ⟨v, h1, h2, h3⟩ := Bg8 t 0 n h
    match t, htl with
    | b :: t', _ =>
      have hb : b ≠ 48 := by
        rcases hh with hh | hh
        · intro e; subst e; simp at hh
        · omega
      have ih := dec_of k (b :: t') v n3 h1 (.inl (by simpa using hb))
      have hv : 1 ≤ v := by
        simp only [V8] at h1
        split at h1
        · rename_i hd
          have h9 := rd_ge t' _ v h1
          have h8 : b.toNat ≠ 48 := fun e => hb (UInt8.toNat_inj.1 e)
          unfold Ab0 at hd; simp at hd
          omega
        · exfalso; omega
      rw [AX0 qz8, show n / 10 = v by omega, show n % 10 = d.toNat - 48 by omega, u8_dig h2, ih]
theorem BC7 {s : Str} (h : 0 ≤ l1R s) : s = decD (l1R s).toNat := by
  unfold l1R at h ⊢
  by_cases hb : AY0 s = true
  · rw [if_pos hb] at h; omega
  · rw [if_neg hb] at h ⊢
    obtain ⟨n, hn⟩ : ∃ n : Nat, V8 0 s = (n : Int) := ⟨(V8 0 s).toNat, by omega⟩
    rw [hn]
    have hc : within s.length 1 6 = true ∧ ((s.head?.map fun b => b == 48).getD false && decide ((1 : Int) < (s.length : Int))) = false := by
      unfold AY0 at hb
      simp only [Bool.or_eq_true, not_or, Bool.not_eq_true', Bool.not_eq_false] at hb
      exact ⟨hb.1, by simpa using hb.2⟩
    have hl : 1 ≤ s.length := by have := hc.1; unfold within at this; simp at this; omega
    refine (dec_of (s.length - 1) s n qz8 hn ?_).symm
    cases s with
    | nil => simp at hl
    | cons b r =>
      by_cases hz : r.length = 0
      · exact .inr (by simpa using hz)
      · left
        have h2 := hc.2
        simp only [List.head?_cons, Option.map_some, Option.getD_some, Bool.and_eq_false_iff, decide_eq_false_iff_not] at h2
        rcases h2 with h2 | h2
        · simpa using h2
        · exfalso; simp at h2; omega
theorem l5N_back {s : Str} {n : Int} (h : l5N s = (n, true)) : s = AA6 n ∧ -999999 ≤ n ∧ n ≤ 999999 := by
  have up : ∀ t : Str, 0 ≤ l1R t → l1R t ≤ 999999 := fun t ht => by
    have e := BC7 ht
    have hl : t.length ≤ 6 := by
      unfold l1R at ht
      split at ht
      · omega
      · rename_i hb
        unfold AY0 within at hb
        simp at hb; omega
    rw [e] at hl
    have hnn : l1R t = ((l1R t).toNat : Int) := by omega
    by_cases hb : (l1R t).toNat ≤ 999999
    · omega
    · exfalso
      have : ∀ m : Nat, 10 ^ 6 ≤ m → 7 ≤ (decD m).length := by
        intro m
        have step : ∀ k m : Nat, 10 ^ k ≤ m → k + 1 ≤ (decD m).length := by
          intro k
          induction k with
          | zero => intro m _; have := decD_ne m; cases hd : decD m with | nil => exact absurd hd this | cons b r => simp
          | succ k ih =>
            intro m hm
            have h10 : ¬ m < 10 := by rw [Nat.pow_succ] at hm; have := Nat.one_le_pow k 10 D3; omega
            rw [AX0 h10, G3]
            have := ih (m / 10) (by rw [Nat.pow_succ] at hm; omega)
            simp only [H4, M6]; omega
        exact step 6 m
      have := this (l1R t).toNat qz8
      omega
  unfold l5N at h
  by_cases hh : s.head? = some 45
  · rw [if_pos (c := s.head? = some 45) hh] at h
    split at h
    · cases h
    · rename_i hc
      injection h with h _
      simp only [Bool.or_eq_true, decide_eq_true_eq, Bool.and_eq_true, beq_iff_eq, not_or, not_and] at hc
      have h0 := hc.2 hh
      have h1 : 0 ≤ l1R (s.drop 1) := by omega
      have e := BC7 h1
      have hu := up _ h1
      cases s with
      | nil => cases hh
      | cons b r =>
        simp at hh; subst hh
        have e2 : r = decD (l1R r).toNat := e
        have h1' : 0 ≤ l1R r := h1
        have h0' : ¬ l1R r = 0 := h0
        have hu' : l1R r ≤ 999999 := hu
        have hn : n = -(((l1R r).toNat : Nat) : Int) := by rw [← h]; show -(l1R r) = _; omega
        refine ⟨?_, by omega, by omega⟩
        rw [hn, Aj3 qz8, ← e2]
  · rw [if_neg (c := s.head? = some 45) hh] at h
    split at h
    · cases h
    · rename_i hc
      injection h with h _
      simp only [Bool.or_eq_true, decide_eq_true_eq, not_or] at hc
      have h1 : 0 ≤ l1R s := by omega
      have e := BC7 h1
      have hu := up _ h1
      have hn : n = (((l1R s).toNat : Nat) : Int) := by omega
      refine ⟨?_, by omega, by omega⟩
      rw [hn, BC6, ← e]
theorem l5N_fail (s : Str) (h : (l5N s).2 = false) : l5N s = (0, false) := by
  unfold l5N at h ⊢
  by_cases hh : s.head? = some 45
  · rw [if_pos (c := s.head? = some 45) hh] at h ⊢
    split
    · rfl
    · rename_i hc; rw [if_neg hc, if_pos hh] at h; cases h
  · rw [if_neg (c := s.head? = some 45) hh] at h ⊢
    split
    · rfl
    · rename_i hc; rw [if_neg hc, if_neg hh] at h; cases h
def E1 (buf : List A9) (got : List G5) (k : Str) : Str × Bool × Bool :=
  match buf.find? (fun w => w.Key == k) with
  | some w => (w.Val, !w.Gone, true)
  | none => match got.find? (fun g => g.Key == k) with
    | some g => (g.Val, g.There, true)
    | none => ([], false, false)
def l9 (o : TOp) (val : Str) (there : Bool) : Bool :=
  if o.Kind = 4 then (if there = true then !(l5N val).2 || !within ((l5N val).1 + o.By) (-999999) 999999 else false)
  else if o.Kind = 5 then (!there || !(l5N val).2) || decide ((l5N val).1 < o.By)
  else if o.Kind = 6 then there
  else if o.Kind = 7 then !there || (val != o.Val)
  else false
def addR (o : TOp) (val : Str) (there : Bool) : Int := (if there = true then (l5N val).1 else 0) + o.By
def opPut (o : TOp) (val : Str) (there : Bool) (buf : List A9) : List A9 :=
  if o.Kind = 2 then ins buf ⟨o.Key, o.Val, false⟩
  else if o.Kind = 3 then ins buf ⟨o.Key, [], true⟩
  else if o.Kind = 4 then ins buf ⟨o.Key, AA6 (addR o val there), false⟩
  else buf
def BD4 (o : TOp) (s : Str × Bool × Bool) : Bool := (!s.2.2 && (o.Kind != 2)) && (o.Kind != 3)
def stepFrom (got : List G5) : List A9 → List TOp → Int × Str × List A9
  | buf, [] => (3, [], buf)
  | buf, o :: l =>
    if BD4 o (E1 buf got o.Key) = true then (1, o.Key, [])
    else if l9 o (E1 buf got o.Key).1 (E1 buf got o.Key).2.1 = true then (2, [], [])
    else stepFrom got (opPut o (E1 buf got o.Key).1 (E1 buf got o.Key).2.1 buf) l
def N0 (l : List TOp) (got : List G5) : Int × Str × List A9 := stepFrom got [] l
theorem Aj4 {w : A9} {k : Str} : ∀ {l : List A9}, k ∈ O8 (ins l w) ↔ k = w.Key ∨ k ∈ O8 l
  | [] => by unfold ins O8; simp
  | x :: l => by
    have ih := Aj4 (w := w) (k := k) (l := l)
    unfold O8 at ih ⊢
    unfold ins
    split
    · rw [List.map_cons, List.map_cons, List.mem_cons, List.mem_cons, ih]
      constructor
      · rintro (e | e | e); exact .inr (.inl e); exact .inl e; exact .inr (.inr e)
      · rintro (e | e | e); exact .inr (.inl e); exact .inl e; exact .inr (.inr e)
    · split
      · rename_i h
        rw [List.map_cons, List.map_cons, List.mem_cons, List.mem_cons, h]
        constructor
        · rintro (e | e); exact .inl e; exact .inr (.inr e)
        · rintro (e | e | e); exact .inl e; exact .inl e; exact .inr e
      · rw [List.map_cons, List.map_cons, List.mem_cons, List.mem_cons]
theorem k6 {o : TOp} {v : Str} {t : Bool} {buf : List A9} (h : adj wLess buf = true) : adj wLess (opPut o v t buf) = true := by
  unfold opPut
  split
  · exact AB7 h
  · split
    · exact AB7 h
    · split
      · exact AB7 h
      · exact h
theorem l4 {o : TOp} {v : Str} {t : Bool} {buf : List A9} : (opPut o v t buf).length ≤ buf.length + 1 := by
  unfold opPut
  split
  · exact Ae1.2
  · split
    · exact Ae1.2
    · split
      · exact Ae1.2
      · omega
theorem CH4 {n : Int} (h : -999999 ≤ n ∧ n ≤ 999999) : (AA6 n).length ≤ 7 := by
  by_cases hn : 0 ≤ n
  · rw [itoa_pos hn]
    have := AX1 (k := 6) (n := n.toNat) qz8 D3; omega
  · obtain ⟨m, rfl⟩ : ∃ m : Nat, n = -(m : Int) := ⟨n.natAbs, by omega⟩
    rw [Aj3 qz8]
    have := AX1 (k := 6) (n := m) qz8 D3
    simp only [H4]; omega
theorem Aj5 {o : TOp} {v : Str} {t : Bool} (hk : o.Kind = 4) (hb : -10000 ≤ o.By ∧ o.By ≤ 10000) (h : l9 o v t = false) : -999999 ≤ addR o v t ∧ addR o v t ≤ 999999 := by
  unfold l9 at h
  rw [if_pos hk] at h
  unfold addR
  cases t with
  | false => rw [if_neg D3]; omega
  | true =>
    rw [if_pos rfl] at h ⊢
    simp only [Bool.or_eq_false_iff, Bool.not_eq_false'] at h
    have := h.2
    unfold within at this
    simp only [Bool.and_eq_true, decide_eq_true_eq] at this
    exact this
theorem l5 {o : TOp} {v : Str} {t : Bool} {buf : List A9} {n : Nat} (ho : o.size ≤ n) (hn : 19 ≤ n) (hb : -10000 ≤ o.By ∧ o.By ≤ 10000) (hk : o.Key.length ≤ 12 ∨ o.Kind ≠ 4) (hg : l9 o v t = false) (h : ∀ w ∈ buf, w.size ≤ n) : ∀ w ∈ opPut o v t buf, w.size ≤ n := by
  have hos : o.Key.length ≤ n ∧ o.Key.length + o.Val.length ≤ n := by unfold TOp.size at ho; omega
  unfold opPut
  split
  · intro w hw
    rcases AV1 hw with rfl | hw
    · unfold A9.size; exact hos.2
    · exact h w hw
  · split
    · intro w hw
      rcases AV1 hw with rfl | hw
      · unfold A9.size; simp only [M6]; omega
      · exact h w hw
    · split
      · rename_i h2 h3 h4
        intro w hw
        rcases AV1 hw with rfl | hw
        · have := CH4 (Aj5 h4 hb hg)
          unfold A9.size
          dsimp only
          rcases hk with hk | hk
          · omega
          · exact absurd h4 hk
        · exact h w hw
      · exact h
theorem Bz4 {o : TOp} {v : Str} {t : Bool} {buf : List A9} {k : Str} (h : k ∈ O8 (opPut o v t buf)) : k = o.Key ∨ k ∈ O8 buf := by
  unfold opPut at h
  split at h
  · exact Aj4.1 h
  · split at h
    · exact Aj4.1 h
    · split at h
      · exact Aj4.1 h
      · exact .inr h
structure Ran (l : List TOp) (got : List G5) (b : Nat) (n : Nat) (r : Int × Str × List A9) : Prop where
  adj : adj wLess r.2.2 = true
  len : r.2.2.length ≤ b + l.length
  size : ∀ w ∈ r.2.2, w.size ≤ n
  ed : r.1 = 1 ∨ r.1 = 2 ∨ r.1 = 3
  ask : r.1 = 1 → (∃ o ∈ l, o.Key = r.2.1) ∧ ∀ g ∈ got, g.Key ≠ r.2.1
  klen : r.2.1.length ≤ n
structure AG5 (n : Nat) (o : TOp) : Prop where
  size : o.size ≤ n
  by' : -10000 ≤ o.By ∧ o.By ≤ 10000
  key : o.Key.length ≤ 12
theorem Bg9 {buf : List A9} {got : List G5} {k : Str} (h : (E1 buf got k).2.2 = false) : (∀ w ∈ buf, w.Key ≠ k) ∧ ∀ g ∈ got, g.Key ≠ k := by
  unfold E1 at h
  split at h
  · cases h
  · rename_i hb
    split at h
    · cases h
    · rename_i hg
      refine ⟨fun w hw e => ?_, fun g hg2 e => ?_⟩
      · have := List.find?_eq_none.1 hb w hw; simp [e] at this
      · have := List.find?_eq_none.1 hg g hg2; simp [e] at this
theorem Bh0 {got : List G5} {n : Nat} (hn : 19 ≤ n) : ∀ {l : List TOp} {buf : List A9}, (∀ o ∈ l, AG5 n o) → adj wLess buf = true → (∀ w ∈ buf, w.size ≤ n) → Ran l got buf.length n (stepFrom got buf l)
  | [], buf, _, ha, hs => ⟨ha, Nat.le_refl _, hs, .inr (.inr rfl), fun h => absurd h (show ¬ (3 : Int) = 1 by decide), Nat.zero_le _⟩
  | o :: l, buf, ho, ha, hs => by
    have h0 := ho o List.mem_cons_self
    unfold stepFrom
    split
    · rename_i hk
      unfold BD4 at hk
      simp only [Bool.and_eq_true, Bool.not_eq_true'] at hk
      refine ⟨rfl, Nat.zero_le _, fun w hw => (by cases hw), .inl rfl, fun _ => ⟨⟨o, List.mem_cons_self, rfl⟩, (Bg9 hk.1.1).2⟩, ?_⟩
      have := h0.key; dsimp only; omega
    · split
      · exact ⟨rfl, Nat.zero_le _, fun w hw => (by cases hw), .inr (.inl rfl), fun h => absurd h D3, Nat.zero_le _⟩
      · rename_i hk hg
        rw [Bool.not_eq_true] at hg
        have ih := Bh0 (got := got) hn (l := l) (buf := opPut o (E1 buf got o.Key).1 (E1 buf got o.Key).2.1 buf) (fun x hx => ho x (List.mem_cons_of_mem _ hx)) (k6 ha) (l5 h0.size hn h0.by' (.inl h0.key) hg hs)
        have hl := l4 (o := o) (v := (E1 buf got o.Key).1) (t := (E1 buf got o.Key).2.1) (buf := buf)
        refine ⟨ih.adj, ?_, ih.size, ih.ed, fun h => ?_, ih.klen⟩
        · have := ih.len; rw [H4]; omega
        · obtain ⟨⟨x, hx, e⟩, k⟩ := ih.ask h
          exact ⟨⟨x, List.mem_cons_of_mem _ hx, e⟩, k⟩
theorem ran {l : List TOp} {got : List G5} {n : Nat} (hn : 19 ≤ n) (h : ∀ o ∈ l, AG5 n o) : Ran l got 0 n (N0 l got) := Bh0 hn h rfl fun w hw => absurd hw List.not_mem_nil
theorem AF6 {l : List TOp} (h : goodOps l = true) : ∀ o ∈ l, AG5 36 o := fun o ho => by
  have hg := Bz3 h o ho
  unfold isOp goodKey goodVal within at hg
  simp only [Bool.and_eq_true, decide_eq_true_eq] at hg
  obtain ⟨⟨⟨⟨⟨a1, a2⟩, a3⟩, a4⟩, a5⟩, a6⟩ := hg
  have b1 := a2.1
  have b2 := a3.1
  exact ⟨by unfold TOp.size; omega, by omega, by omega⟩
def isTxn (n : Int) : Bool := within n 1 60
def AS7 (x y : H8) : Bool := ((x.Key == y.Key) && (x.Txn != y.Txn)) && (x.Write || y.Write)
def putI : List Int → Int → List Int
  | [], n => [n]
  | x :: l, n => if x < n then x :: putI l n else if x = n then x :: l else n :: x :: l
def waitsS (l : List H8) (x : H8) : List Int := (l.filter (AS7 x)).foldl (fun a y => putI a y.Txn) []
def takeL : List H8 → H8 → List H8
  | [], x => [x]
  | y :: l, x => if (y.Key == x.Key && y.Txn == x.Txn) = true then ⟨y.Key, y.Txn, y.Write || x.Write⟩ :: l else y :: takeL l x
def AN8 (l : List H8) (fixed : List Int) (x : H8) (w : List Int) : Int × List Int :=
  if w.length = 0 then (1, []) else if (w.any fun t => decide (t < x.Txn) || fixed.any fun y => t == y) = true then (2, []) else (3, w)
structure At2 (n : Nat) (c : Int) (t : A3) : Prop where
  terms : t.Terms.length = n
  ops : goodOps t.Ops = true ∧ ∀ o ∈ t.Ops, o.Key ∈ keyD
  got : t.Got.length ≤ 8 ∧ ∀ g ∈ t.Got, g.size ≤ 64
  span : t.Begin ≤ c ∧ (t.End = -1 ∨ (0 ≤ t.Begin ∧ t.Begin < t.End ∧ t.End ≤ c))
structure LkOk (n : Nat) (c : Int) (l : A2) : Prop where
  node : 0 ≤ l.Node ∧ l.Node < 3 * (n : Int)
  keys : l.Keys.length ≤ 8 ∧ ∀ k ∈ l.Keys, k.length ≤ 12
  got : l.Got.length ≤ l.Keys.length ∧ ∀ g ∈ l.Got, g.size ≤ 64
  span : l.Begin ≤ c ∧ (l.End = -1 ∨ (0 ≤ l.Begin ∧ l.Begin < l.End ∧ l.End ≤ c))
  time : 0 ≤ l.Time ∧ l.Time ≤ 1000000
def q6 (l : List H8) : Prop := l.length ≤ 60 ∧ ∀ x ∈ l, (1 ≤ x.Txn ∧ x.Txn ≤ 1000000) ∧ x.size ≤ 64
structure WI (w : TWorld) : Prop where
  n : 1 ≤ w.Groups.length ∧ w.Groups.length ≤ 3
  clocks : w.Clocks.length = 3 * w.Groups.length ∧ ∀ c ∈ w.Clocks, -5 ≤ c.Off ∧ c.Off ≤ 5
  cuts : w.Cuts.length + 1 = w.Groups.length ∧ ∀ c ∈ w.Cuts, c.length ≤ 12
  locks : w.Locks.length = w.Groups.length ∧ ∀ l ∈ w.Locks, q6 l
  promised : w.Promised.length = w.Groups.length ∧ ∀ p ∈ w.Promised, 0 ≤ p ∧ p ≤ 1000000
  groups : ∀ g ∈ w.Groups, WG g
  txns : w.Txns.length ≤ 6 ∧ ∀ t ∈ w.Txns, At2 w.Groups.length w.Count t
  looks : w.Looks.length ≤ 4 ∧ ∀ l ∈ w.Looks, LkOk w.Groups.length w.Count l
  now : 0 ≤ w.Now ∧ w.Now ≤ 100000
  count : 0 ≤ w.Count ∧ w.Count ≤ 1000000
structure WQ (w : TWorld) : Prop where
  txns : ∀ t ∈ w.Txns, t.Begin < w.Count
  looks : ∀ l ∈ w.Looks, l.Begin < w.Count
structure WS (w v : TWorld) : Prop where
  cuts : v.Cuts = w.Cuts
  groups : v.Groups.length = w.Groups.length
  txns : v.Txns.length = w.Txns.length
  looks : v.Looks.length = w.Looks.length
  now : v.Now = w.Now
  count : v.Count = w.Count
structure WF (w v : TWorld) : Prop where
  wi : WI v
  ws : WS w v
  lk : v.Looks = w.Looks
  gr : v.Groups = w.Groups
theorem WF.trans {u v w : TWorld} (h : WF u v) (k : WF v w) : WF u w := ⟨k.wi, ⟨k.ws.cuts.trans h.ws.cuts, k.ws.groups.trans h.ws.groups, k.ws.txns.trans h.ws.txns, k.ws.looks.trans h.ws.looks, k.ws.now.trans h.ws.now, k.ws.count.trans h.ws.count⟩, k.lk.trans h.lk, k.gr.trans h.gr⟩
theorem WF.refl {w : TWorld} (h : WI w) : WF w w := ⟨h, ⟨rfl, rfl, rfl, rfl, rfl, rfl⟩, rfl, rfl⟩
theorem WS.refl (w : TWorld) : WS w w := ⟨rfl, rfl, rfl, rfl, rfl, rfl⟩
theorem WS.trans {u v w : TWorld} (h : WS u v) (k : WS v w) : WS u w := ⟨k.cuts.trans h.cuts, k.groups.trans h.groups, k.txns.trans h.txns, k.looks.trans h.looks, k.now.trans h.now, k.count.trans h.count⟩
def wGroup (w : TWorld) (i : Nat) (g : TGroup) : TWorld := { w with Groups := w.Groups.set i g }
def wLocks (w : TWorld) (i : Nat) (l : List H8) : TWorld := { w with Locks := w.Locks.set i l }
def AC8 (w : TWorld) (i : Nat) (p : Int) : TWorld := { w with Promised := w.Promised.set i p }
def wTxn (w : TWorld) (i : Nat) (t : A3) : TWorld := { w with Txns := w.Txns.set i t }
def wLook (w : TWorld) (i : Nat) (t : A2) : TWorld := { w with Looks := w.Looks.set i t }
def BL5 (w : TWorld) (i : Nat) (c : V6) : TWorld := { w with Clocks := w.Clocks.set i c }
theorem n9 {α : Type} {l : List α} {i : Nat} {x : α} {P : α → Prop} (h : ∀ y ∈ l, P y) (hx : P x) : ∀ y ∈ l.set i x, P y := fun y hy => by
  rcases List.mem_or_eq_of_mem_set hy with hy | rfl
  · exact h y hy
  · exact hx
theorem Z6 {w : TWorld} (h : WI w) {i : Nat} {g : TGroup} (hg : WG g) : WI (wGroup w i g) ∧ WS w (wGroup w i g) := by
  have hl : (w.Groups.set i g).length = w.Groups.length := List.length_set ..
  refine ⟨⟨?_, ?_, ?_, ?_, ?_, n9 h.groups hg, ?_, ?_, h.now, h.count⟩, ⟨rfl, hl, rfl, rfl, rfl, rfl⟩⟩ <;> unfold wGroup <;> dsimp only <;> rw [hl]
  · exact h.n
  · exact h.clocks
  · exact h.cuts
  · exact h.locks
  · exact h.promised
  · exact h.txns
  · exact h.looks
theorem Bh1 {w : TWorld} (h : WI w) {i : Nat} {l : List H8} (hg : q6 l) : WI (wLocks w i l) ∧ WS w (wLocks w i l) :=
  ⟨⟨h.n, h.clocks, h.cuts, ⟨(List.length_set ..).trans h.locks.1, n9 h.locks.2 hg⟩, h.promised, h.groups, h.txns, h.looks, h.now, h.count⟩, ⟨rfl, rfl, rfl, rfl, rfl, rfl⟩⟩
theorem Bu8 {w : TWorld} (h : WI w) {i : Nat} {p : Int} (hp : 0 ≤ p ∧ p ≤ 1000000) : WI (AC8 w i p) ∧ WS w (AC8 w i p) :=
  ⟨⟨h.n, h.clocks, h.cuts, h.locks, ⟨(List.length_set ..).trans h.promised.1, n9 h.promised.2 hp⟩, h.groups, h.txns, h.looks, h.now, h.count⟩, ⟨rfl, rfl, rfl, rfl, rfl, rfl⟩⟩
theorem AS0 {w : TWorld} (h : WI w) {i : Nat} {t : A3} (ht : At2 w.Groups.length w.Count t) : WI (wTxn w i t) ∧ WS w (wTxn w i t) :=
  ⟨⟨h.n, h.clocks, h.cuts, h.locks, h.promised, h.groups, ⟨by show (w.Txns.set i t).length ≤ 6; rw [List.length_set]; exact h.txns.1, n9 h.txns.2 ht⟩, h.looks, h.now, h.count⟩, ⟨rfl, rfl, List.length_set .., rfl, rfl, rfl⟩⟩
theorem BP0 {w : TWorld} (h : WI w) {i : Nat} {t : A2} (ht : LkOk w.Groups.length w.Count t) : WI (wLook w i t) ∧ WS w (wLook w i t) :=
  ⟨⟨h.n, h.clocks, h.cuts, h.locks, h.promised, h.groups, h.txns, ⟨by show (w.Looks.set i t).length ≤ 4; rw [List.length_set]; exact h.looks.1, n9 h.looks.2 ht⟩, h.now, h.count⟩, ⟨rfl, rfl, rfl, List.length_set .., rfl, rfl⟩⟩
theorem wi_clock {w : TWorld} (h : WI w) {i : Nat} {c : V6} (hc : -5 ≤ c.Off ∧ c.Off ≤ 5) : WI (BL5 w i c) ∧ WS w (BL5 w i c) :=
  ⟨⟨h.n, ⟨(List.length_set ..).trans h.clocks.1, n9 h.clocks.2 hc⟩, h.cuts, h.locks, h.promised, h.groups, h.txns, h.looks, h.now, h.count⟩, ⟨rfl, rfl, rfl, rfl, rfl, rfl⟩⟩
theorem wi_now {w : TWorld} (h : WI w) {n : Int} (hn : 0 ≤ n ∧ n ≤ 100000) : WI { w with Now := n } := ⟨h.n, h.clocks, h.cuts, h.locks, h.promised, h.groups, h.txns, h.looks, hn, h.count⟩
theorem wi_count {w : TWorld} (h : WI w) (hc : w.Count < 1000000) : WI { w with Count := w.Count + 1 } ∧ WQ { w with Count := w.Count + 1 } := by
  have h0 := h.count
  refine ⟨⟨h.n, h.clocks, h.cuts, h.locks, h.promised, h.groups, ⟨h.txns.1, fun t ht => ?_⟩, ⟨h.looks.1, fun t ht => ?_⟩, h.now, by dsimp only; omega⟩, ⟨fun t ht => ?_, fun t ht => ?_⟩⟩
  · have := h.txns.2 t ht; exact ⟨this.terms, this.ops, this.got, by dsimp only; have := this.span; omega⟩
  · have := h.looks.2 t ht; exact ⟨this.node, this.keys, this.got, by dsimp only; have := this.span; omega, this.time⟩
  · have := (h.txns.2 t ht).span; dsimp only; omega
  · have := (h.looks.2 t ht).span; dsimp only; omega
def r8 (l : List J1) : List L1 := l.map J1.Rec
def At3 (l : List J1) (n : Nat) : G2 := stFrom d3 (r8 (l.take n))
def AP8 (g : TGroup) : E6 := g.Reps.foldl (fun b r => if b.Sure < r.Sure then r else b) (repAt g 0)
def AH8 (g : TGroup) : G2 := At3 (AP8 g).Log (AP8 g).Sure.toNat
def o6 (g : TGroup) : Bool := decide (0 ≤ g.Lead) && ((repAt g g.Lead).Log.take (repAt g g.Lead).Sure.toNat).any fun e => e.Term == g.Term
def leadSure (g : TGroup) : G2 := At3 (repAt g g.Lead).Log (repAt g g.Lead).Sure.toNat
def leadFull (g : TGroup) : G2 := At3 (repAt g g.Lead).Log (repAt g g.Lead).Log.length
theorem CH5 {r : E6} {t : Int} (h : GR r t) (n : Nat) : (∀ x ∈ r8 (r.Log.take n), goodRec x = true) ∧ (r8 (r.Log.take n)).length ≤ 60 := by
  refine ⟨fun x hx => ?_, ?_⟩
  · obtain ⟨e, he, rfl⟩ := List.mem_map.1 hx
    exact (h.ents e (List.mem_of_mem_take he)).2.2
  · unfold r8
    rw [A5]
    exact Nat.le_trans (List.length_take_le' _ _) h.len
theorem AM7 {r : E6} {t : Int} (h : GR r t) (n : Nat) : GS (At3 r.Log n) := Bu6 Av6 (CH5 h n).1
theorem Bh2 : ∀ {l : List E6} {b : E6}, l.foldl (fun b r => if b.Sure < r.Sure then r else b) b = b ∨ l.foldl (fun b r => if b.Sure < r.Sure then r else b) b ∈ l
  | [], b => .inl rfl
  | r :: l, b => by
    rw [List.foldl_cons]
    rcases Bh2 (l := l) (b := if b.Sure < r.Sure then r else b) with h | h
    · rw [h]
      split
      · exact .inr List.mem_cons_self
      · exact .inl rfl
    · exact .inr (List.mem_cons_of_mem _ h)
theorem Bu9 {g : TGroup} (h : GG g) : AP8 g ∈ g.Reps := by
  rcases Bh2 (l := g.Reps) (b := repAt g 0) with e | e
  · unfold AP8; rw [e]
    exact d9 ⟨Int.le_refl 0, by rcases h.many with k | k <;> omega⟩
  · exact e
theorem BU8 {g : TGroup} (h : GG g) : GS (AH8 g) := AM7 (h.reps _ (Bu9 h)) _
theorem AV2 {g : TGroup} (h : GG g) (hl : 0 ≤ g.Lead) : 0 ≤ g.Lead ∧ g.Lead < g.Reps.length := by
  rcases h.lead with e | ⟨a, b, _⟩
  · omega
  · exact ⟨a, b⟩
theorem AI2 {g : TGroup} (h : GG g) (hl : 0 ≤ g.Lead) : GS (leadSure g) := AM7 (h.reps _ (d9 (AV2 h hl))) _
theorem m9 {g : TGroup} (h : GG g) (hl : 0 ≤ g.Lead) : GS (leadFull g) := AM7 (h.reps _ (d9 (AV2 h hl))) _
theorem j6 {g : TGroup} (h : o6 g = true) : 0 ≤ g.Lead := by
  unfold o6 at h
  rw [Bool.and_eq_true, decide_eq_true_eq] at h
  exact h.1
structure StK (s : G2) : Prop where
  cells : ∀ c ∈ s.Cells, c.Key ∈ keyD
  held : ∀ h ∈ s.Held, ∀ w ∈ h.Writes, w.Key ∈ keyD
def lookW (l : List A9) (k : Str) : Option A9 := l.find? fun w => w.Key == k
theorem z7 {l : List A9} {k : Str} {w : A9} (h : lookW l k = some w) : w ∈ l ∧ w.Key = k := by
  unfold lookW at h
  exact ⟨List.mem_of_find?_eq_some h, by simpa using List.find?_some h⟩
theorem Aj6 {l : List A9} {k : Str} (h : lookW l k = none) : ∀ w ∈ l, w.Key ≠ k := fun w hw e => by
  have := List.find?_eq_none.1 h w hw
  simp [e] at this
theorem Bv0 {x y : A9} : ∀ {l : List A9}, l.Pairwise (fun a b => wLess a b = true) → x ∈ l → y ∈ l → x.Key = y.Key → x = y
  | [], _, h, _, _ => by cases h
  | z :: l, hp, hx, hy, e => by
    obtain ⟨h1, h2⟩ := List.pairwise_cons.1 hp
    rcases List.mem_cons.1 hx with ex | hx'
    · rcases List.mem_cons.1 hy with ey | hy'
      · rw [ex, ey]
      · exfalso; have := h1 y hy'; unfold wLess at this; rw [← ex, e, I4] at this; cases this
    · rcases List.mem_cons.1 hy with ey | hy'
      · exfalso; have := h1 x hx'; unfold wLess at this; rw [← ey, e, I4] at this; cases this
      · exact Bv0 h2 hx' hy' e
theorem Ap7 {l : List A9} (ha : adj wLess l = true) {w : A9} (hw : w ∈ l) : lookW l w.Key = some w := by
  cases h : lookW l w.Key with
  | none => exact absurd rfl (Aj6 h w hw)
  | some x =>
    obtain ⟨hx, hk⟩ := z7 h
    have hp := (m7 X8).1 ha
    by_cases e : x = w
    · rw [e]
    · exact absurd (Bv0 hp hx hw hk) e
theorem Ap8 (w : A9) (k : Str) : ∀ {l : List A9}, adj wLess l = true → lookW (ins l w) k = if w.Key = k then some w else lookW l k
  | [], _ => by
    unfold ins lookW
    by_cases h : w.Key = k
    · rw [if_pos h, List.find?_cons_of_pos s9]
    · rw [if_neg h, List.find?_cons_of_neg s9]
  | x :: l, ha => by
    have hp := (m7 X8).1 ha
    rw [List.pairwise_cons] at hp
    have ih := Ap8 w k (l := l) ((m7 X8).2 hp.2)
    unfold ins
    split
    · rename_i hx
      unfold lookW at ih ⊢
      by_cases hk : x.Key = k
      · rw [List.find?_cons_of_pos (by simpa using hk), List.find?_cons_of_pos (by simpa using hk)]
        by_cases h : w.Key = k
        · exfalso; rw [hk, h, I4] at hx; cases hx
        · rw [if_neg h]
      · rw [List.find?_cons_of_neg (by simpa using hk), List.find?_cons_of_neg (by simpa using hk), ih]
    · split
      · rename_i _ hx
        unfold lookW
        by_cases h : w.Key = k
        · rw [if_pos h, List.find?_cons_of_pos s9]
        · rw [if_neg h, List.find?_cons_of_neg s9, List.find?_cons_of_neg (by rw [hx]; simpa using h)]
      · unfold lookW
        by_cases h : w.Key = k
        · rw [if_pos h, List.find?_cons_of_pos s9]
        · rw [if_neg h, List.find?_cons_of_neg s9]
theorem BC8 {k : Str} : ∀ {ws l : List A9}, adj wLess l = true → k ∉ O8 ws → lookW (insL l ws) k = lookW l k
  | [], _, _, _ => rfl
  | w :: ws, l, ha, h => by
    unfold O8 at h
    rw [List.map_cons, List.mem_cons, not_or] at h
    show lookW (insL (ins l w) ws) k = _
    rw [BC8 (AB7 ha) h.2, Ap8 w k ha, if_neg (fun e => h.1 e.symm)]
theorem BG7 {w : A9} : ∀ {ws l : List A9}, adj wLess l = true → adj wLess ws = true → w ∈ ws → lookW (insL l ws) w.Key = some w
  | [], _, _, _, h => by cases h
  | x :: ws, l, ha, hw, h => by
    have hp := (m7 X8).1 hw
    rw [List.pairwise_cons] at hp
    show lookW (insL (ins l x) ws) w.Key = _
    rcases List.mem_cons.1 h with rfl | h
    · rw [BC8 (AB7 ha) (fun hk => by
        obtain ⟨y, hy, e⟩ := List.mem_map.1 hk
        have := hp.1 y hy
        unfold wLess at this; rw [e, I4] at this; cases this), Ap8 _ _ ha, if_pos rfl]
    · exact BG7 (AB7 ha) ((m7 X8).2 hp.2) h
theorem Bo5 {l : List A9} (ha : adj wLess l = true) (k : Str) : lookW (o5 l) k = (lookW l k).filter fun w => !w.Gone := by
  have hl : adj wLess (o5 l) = true := BF7 _ ha
  cases h : lookW l k with
  | none =>
    rw [Option.filter_none]
    cases h2 : lookW (o5 l) k with
    | none => rfl
    | some x =>
      obtain ⟨hx, hk⟩ := z7 h2
      exact absurd hk (Aj6 h x (List.mem_filter.1 hx).1)
  | some w =>
    obtain ⟨hw, hk⟩ := z7 h
    cases hg : w.Gone with
    | false =>
      have : w ∈ o5 l := List.mem_filter.2 ⟨hw, by rw [hg]; rfl⟩
      have h3 := Ap7 hl this
      rw [hk] at h3
      rw [h3, Option.filter_some, if_pos (by rw [hg]; rfl)]
    | true =>
      rw [Option.filter_some, if_neg (by rw [hg]; decide)]
      cases h2 : lookW (o5 l) k with
      | none => rfl
      | some x =>
        obtain ⟨hx, hk2⟩ := z7 h2
        obtain ⟨hx1, hx2⟩ := List.mem_filter.1 hx
        have h4 := Ap7 ha hx1
        rw [hk2, h] at h4
        injection h4 with h4
        subst h4
        rw [hg] at hx2; cases hx2
def putD (rows ws : List A9) : List A9 := o5 (insL rows ws)
theorem Aj7 {rows ws : List A9} (h : adj wLess rows = true) : adj wLess (putD rows ws) = true := BF7 _ (BB7 h)
theorem BU9 {rows ws : List A9} (h : adj wLess rows = true) (k : Str) : lookW (putD rows ws) k = (lookW (insL rows ws) k).filter fun w => !w.Gone := Bo5 (BB7 h) k
def Af0 (l : List A9) : Prop := adj wLess l = true ∧ (∀ w ∈ l, w.Gone = false ∧ wGood w = true)
theorem CH6 {rows : List A9} (h : Af0 rows) (k : Str) : (lookW rows k).filter (fun w => !w.Gone) = lookW rows k := by
  cases e : lookW rows k with
  | none => rfl
  | some w => rw [Option.filter_some, if_pos (by rw [(h.2 w (z7 e).1).1]; rfl)]
theorem putD_out {rows ws : List A9} (h : Af0 rows) {k : Str} (hk : k ∉ O8 ws) : lookW (putD rows ws) k = lookW rows k := by
  rw [BU9 h.1, BC8 h.1 hk, CH6 h]
theorem putD_ok {rows ws : List A9} (h : Af0 rows) (hw : ∀ w ∈ ws, wGood w = true) : Af0 (putD rows ws) := by
  refine ⟨Aj7 h.1, fun w hm => ?_⟩
  obtain ⟨h1, h2⟩ := List.mem_filter.1 hm
  refine ⟨by simpa using h2, ?_⟩
  rcases BB8 h1 with h3 | h3
  · exact hw w h3
  · exact (h.2 w h3).2
def Ab1 (g : G5) : Bool := goodKey g.Key && isStored g.Val (!g.There)
def AA7 (p : List G5) : List G5 → Bool
  | [] => true
  | g :: l => (Ab1 g && !(p.any fun h => h.Key == g.Key)) && AA7 (p ++ [g]) l
def AB3 (l : List G5) : Bool := AA7 [] l && decide ((l.length : Int) ≤ 8)
def d4 (d : C2) : Bool := (((((isTxn d.Txn && within d.Begin 0 1000000) && (d.End == -1 || within d.End (d.Begin + 1) 1000000)) && (!d.Look || (d.Yes && ((d.Writes.length : Int) == 0)))) && isTrue d.Time) && AB3 d.Got) && goodWrites d.Writes
def goodHist (h : List C2) : Bool := decide ((h.length : Int) ≤ 10) && h.all d4
def ahead (a b : C2) : Bool := (a.End != -1) && decide (a.End < b.Begin)
def zDeed : C2 := ⟨0, 0, 0, false, false, 0, [], []⟩
def deedAt (h : List C2) (n : Int) : C2 := (h[n.toNat]?).getD zDeed
def idxF9 (m : Int) (p : List Int) : List Int → Bool
  | [] => true
  | n :: o => (within n 0 (m - 1) && !(p.any fun x => n == x)) && idxF9 m (p ++ [n]) o
def n2 (h : List C2) (o : List Int) : Bool := idxF9 (h.length : Int) [] o && goodHist h
def tell (rows : List A9) (k : Str) : G5 := match lookW rows k with
  | some w => ⟨k, w.Val, true⟩
  | none => ⟨k, [], false⟩
def confirms (rows : List A9) (d : C2) : Bool := d.Got.all fun g => decide (tell rows g.Key = g)
def playO (h : List C2) : List Int → List A9 → Bool → Option (List A9 × Bool)
  | [], rows, r => some (rows, r)
  | n :: o, rows, r =>
    if (deedAt h n).Yes = true then
      (if ((putD rows (deedAt h n).Writes).length : Int) ≤ 24 then playO h o (putD rows (deedAt h n).Writes) (r && confirms rows (deedAt h n)) else none)
    else playO h o rows r
def playR (h : List C2) (o : List Int) : List A9 × Bool × Bool := if n2 h o = true then (match playO h o [] true with
  | some (rows, r) => (rows, r, true)
  | none => ([], false, false)) else ([], false, false)
def keepsO (h : List C2) : List Int → Bool
  | [] => true
  | n :: o => (o.all fun m => !ahead (deedAt h m) (deedAt h n)) && keepsO h o
def d5 (h : List C2) : List Int := (List.range h.length).filterMap fun i : Nat => if (deedAt h (Int.ofNat i)).Yes = true then some (Int.ofNat i) else none
def Ab2 (h : List C2) (o : List Int) : Bool := (d5 h).all fun n => o.any fun x => n == x
def Al3 (h : List C2) (o : List Int) : Bool × Bool := if n2 h o = true then ((Ab2 h o && keepsO h o) && ((playR h o).2.2 && (playR h o).2.1), true) else (false, false)
theorem BV0 {m : Int} : ∀ {o p : List Int}, idxF9 m p o = true ↔ (∀ n ∈ o, 0 ≤ n ∧ n < m ∧ n ∉ p) ∧ o.Nodup
  | [], p => by simp [idxF9]
  | n :: o, p => by
    unfold idxF9 within
    rw [Bool.and_eq_true, BV0, List.nodup_cons]
    simp only [Bool.and_eq_true, decide_eq_true_eq, Bool.not_eq_true', List.any_eq_false, beq_iff_eq, List.mem_append, List.mem_singleton, not_or]
    constructor
    · rintro ⟨⟨⟨h1, h2⟩, h3⟩, h4, h5⟩
      refine ⟨fun x hx => ?_, fun hn => (h4 n hn).2.2.2 rfl, h5⟩
      rcases List.mem_cons.1 hx with rfl | hx
      · exact ⟨h1, by omega, fun hp => h3 _ hp rfl⟩
      · have := h4 x hx; exact ⟨this.1, this.2.1, this.2.2.1⟩
    · rintro ⟨h1, h2, h3⟩
      have h0 := h1 n List.mem_cons_self
      refine ⟨⟨⟨h0.1, by omega⟩, fun x hx e => h0.2.2 (e ▸ hx)⟩, fun x hx => ?_, h3⟩
      have := h1 x (List.mem_cons_of_mem _ hx)
      exact ⟨this.1, this.2.1, this.2.2, fun e => h2 (e ▸ hx)⟩
theorem Ax9 {h : List C2} {o : List Int} : n2 h o = true ↔ (∀ n ∈ o, 0 ≤ n ∧ n < (h.length : Int)) ∧ o.Nodup ∧ goodHist h = true := by
  unfold n2
  rw [Bool.and_eq_true, BV0]
  constructor
  · rintro ⟨⟨a, b⟩, c⟩; exact ⟨fun n hn => ⟨(a n hn).1, (a n hn).2.1⟩, b, c⟩
  · rintro ⟨a, b, c⟩; exact ⟨⟨fun n hn => ⟨(a n hn).1, (a n hn).2, List.not_mem_nil⟩, b⟩, c⟩
theorem AU0 {h : List C2} {n : Int} (hn : 0 ≤ n ∧ n < (h.length : Int)) : deedAt h n ∈ h ∧ h[n.toNat]? = some (deedAt h n) := by
  unfold deedAt
  have : n.toNat < h.length := by omega
  rw [List.getElem?_eq_getElem this]
  exact ⟨List.getElem_mem _, rfl⟩
theorem Ap9 {h : List C2} (g : goodHist h = true) {d : C2} (hd : d ∈ h) : d4 d = true := by
  unfold goodHist at g
  rw [Bool.and_eq_true, List.all_eq_true] at g
  exact g.2 d hd
theorem Ac5 {d : C2} (h : d4 d = true) : l3Writes d.Writes = true ∧ (∀ w ∈ d.Writes, wGood w = true) ∧ adj wLess d.Writes = true := by
  unfold d4 at h
  simp only [Bool.and_eq_true] at h
  have := h.2
  rw [AI1] at this
  refine ⟨this, ?_⟩
  unfold l3Writes at this
  simp only [Bool.and_eq_true, List.all_eq_true] at this
  exact ⟨this.1.1, this.1.2⟩
def HistK (h : List C2) : Prop := ∀ d ∈ h, ∀ w ∈ d.Writes, w.Key ∈ keyD
theorem BG8 {h : List C2} {n : Int} {o : List Int} {rows : List A9} {r : Bool} : playO h (n :: o) rows r = if (deedAt h n).Yes = true then (if ((putD rows (deedAt h n).Writes).length : Int) ≤ 24 then playO h o (putD rows (deedAt h n).Writes) (r && confirms rows (deedAt h n)) else none) else playO h o rows r := rfl
theorem Aq0 {h : List C2} {q : List Int} : ∀ {p : List Int} {rows : List A9} {r : Bool}, playO h (p ++ q) rows r = (playO h p rows r).bind fun x => playO h q x.1 x.2
  | [], rows, r => rfl
  | n :: p, rows, r => by
    rw [AL8, BG8, BG8]
    split
    · split
      · exact Aq0
      · rfl
    · exact Aq0
def lessT (h : List C2) (a b : Int) : Bool :=
  if (deedAt h a).Time = (deedAt h b).Time then ((deedAt h a).Look != (deedAt h b).Look) && (deedAt h b).Look else decide ((deedAt h a).Time < (deedAt h b).Time)
def posR (h : List C2) (n : Int) (l : List Int) : Nat → Nat
  | 0 => 0
  | k + 1 => if lessT h n (l.getD k 0) = true then posR h n l k else k + 1
def p4 (h : List C2) (l : List Int) (n : Int) : List Int := l.take (posR h n l l.length) ++ n :: l.drop (posR h n l l.length)
def orderT (h : List C2) : List Int := (d5 h).foldl (p4 h) []
def orderTR (h : List C2) : List Int × Bool := if goodHist h = true then (orderT h, true) else ([], false)
def AG6 (h : List C2) : Bool × Bool := if goodHist h = true then Al3 h (orderT h) else (false, false)
def m1 (h : List C2) (l : List Int) (k : Str) : Int := l.foldl (fun a m => if hasK (deedAt h m).Writes k = true then m else a) (-1)
def T3 (o : List Int) (n : Int) : List Int := o.takeWhile fun m => m != n
def AI5 (h : List C2) (n : Int) : List Int × Bool := if ((goodHist h && within n 0 ((h.length : Int) - 1)) && (deedAt h n).Yes) = true then ((deedAt h n).Got.map fun g => m1 h (T3 (orderT h) n) g.Key, true) else ([], false)
theorem Bv1 {h : List C2} {n : Int} {l : List Int} : ∀ k, posR h n l k ≤ k
  | 0 => Nat.le_refl _
  | k + 1 => by
    unfold posR
    split
    · exact Nat.le_succ_of_le (Bv1 k)
    · exact Nat.le_refl _
theorem BV1 {h : List C2} {n : Int} {l : List Int} : ∀ k, k ≤ l.length → (∀ i x, posR h n l k ≤ i → i < k → l[i]? = some x → lessT h n x = true) ∧ (∀ x, 0 < posR h n l k → l[posR h n l k - 1]? = some x → lessT h n x = false)
  | 0, _ => ⟨fun i x h1 h2 => by omega, fun x h1 => by simp [posR] at h1⟩
  | k + 1, hk => by
    have ih := BV1 (h := h) (n := n) (l := l) k qz8
    obtain ⟨y, hy⟩ := get_some (show k < l.length by omega)
    have hd : l.getD k 0 = y := by rw [List.getD_eq_getElem?_getD, hy]; rfl
    unfold posR
    rw [hd]
    by_cases hb : lessT h n y = true
    · rw [if_pos hb]
      refine ⟨fun i x h1 h2 hx => ?_, ih.2⟩
      by_cases e : i = k
      · subst e; rw [hy] at hx; injection hx with hx; subst hx; exact hb
      · exact ih.1 i x h1 qz8 hx
    · rw [if_neg hb]
      refine ⟨fun i x h1 h2 => by omega, fun x _ hx => ?_⟩
      rw [Nat.add_sub_cancel, hy] at hx; injection hx with hx; subst hx
      simpa using hb
theorem BG9 (h : List C2) (l : List Int) (n : Int) : (p4 h l n).Perm (n :: l) := by
  unfold p4
  exact List.perm_middle.trans (List.Perm.cons n (by rw [List.take_append_drop]))
theorem AS1 (h : List C2) : ∀ (ys l : List Int), (ys.foldl (p4 h) l).Perm (ys.reverse ++ l)
  | [], l => List.Perm.refl _
  | y :: ys, l => by
    rw [List.foldl_cons]
    refine (AS1 h ys _).trans ?_
    rw [List.reverse_cons, List.append_assoc]
    exact (BG9 h l y).append_left _
theorem BH0 (h : List C2) : (orderT h).Perm (d5 h) := by
  have := AS1 h (d5 h) []
  rw [List.append_nil] at this
  exact this.trans (List.reverse_perm _)
theorem BH1 {h : List C2} {a b : Int} : (lessT h a b = true → (deedAt h a).Time ≤ (deedAt h b).Time) ∧ (lessT h a b = false → (deedAt h b).Time ≤ (deedAt h a).Time) := by
  unfold lessT
  split
  · rename_i e; exact ⟨fun _ => by omega, fun _ => by omega⟩
  · exact ⟨fun h => by have := of_decide_eq_true h; omega, fun h => by have := of_decide_eq_false h; omega⟩
def BD5 (h : List C2) (l : List Int) : Prop := l.Pairwise fun a b => (deedAt h a).Time ≤ (deedAt h b).Time
theorem insT_srt {h : List C2} {l : List Int} (hs : BD5 h l) (n : Int) : BD5 h (p4 h l n) := by
  obtain ⟨h1, h2⟩ := BV1 (h := h) (n := n) (l := l) l.length (Nat.le_refl _)
  have hle := Bv1 (h := h) (n := n) (l := l) l.length
  unfold p4
  generalize posR h n l l.length = k at *
  unfold BD5 at *
  have hk := hs
  rw [← List.take_append_drop k l, List.pairwise_append] at hk
  rw [List.pairwise_append, List.pairwise_cons]
  have hafter : ∀ x ∈ l.drop k, (deedAt h n).Time ≤ (deedAt h x).Time := fun x hx => by
    obtain ⟨i, hi⟩ := List.getElem?_of_mem hx
    rw [List.getElem?_drop] at hi
    have := (List.getElem?_eq_some_iff.1 hi).1
    exact BH1.1 (h1 (k + i) x qz8 this hi)
  have hbefore : ∀ x ∈ l.take k, (deedAt h x).Time ≤ (deedAt h n).Time := fun x hx => by
    obtain ⟨i, hi⟩ := List.getElem?_of_mem hx
    have hlt : i < k := by
      have := (List.getElem?_eq_some_iff.1 hi).1
      rw [G9] at this; omega
    rw [List.getElem?_take_of_lt hlt] at hi
    obtain ⟨y, hy⟩ := get_some (show k - 1 < l.length by omega)
    have hyn := BH1.2 (h2 y qz8 hy)
    by_cases e : i = k - 1
    · subst e; rw [hy] at hi; injection hi with hi; subst hi; exact hyn
    · have hij := (List.pairwise_iff_getElem.1 hs) i (k - 1) qz8 qz8 qz8
      have e1 := (List.getElem?_eq_some_iff.1 hi).2
      have e2 := (List.getElem?_eq_some_iff.1 hy).2
      rw [e1, e2] at hij
      omega
  refine ⟨hk.1, ⟨hafter, hk.2.1⟩, fun x hx y hy => ?_⟩
  rcases List.mem_cons.1 hy with rfl | hy
  · exact hbefore x hx
  · exact hk.2.2 x hx y hy
theorem Bh3 {h : List C2} : ∀ {ys l : List Int}, BD5 h l → BD5 h (ys.foldl (p4 h) l)
  | [], _, hs => hs
  | y :: ys, l, hs => by rw [List.foldl_cons]; exact Bh3 (insT_srt hs y)
theorem CH7 (h : List C2) : BD5 h (orderT h) := Bh3 List.Pairwise.nil
theorem Bv2 {h : List C2} {n : Int} : n ∈ d5 h ↔ (0 ≤ n ∧ n < (h.length : Int)) ∧ (deedAt h n).Yes = true := by
  unfold d5
  rw [List.mem_filterMap]
  constructor
  · rintro ⟨i, hi, e⟩
    rw [List.mem_range] at hi
    split at e
    · injection e with e; subst e; exact ⟨⟨Int.natCast_nonneg i, show (i : Int) < _ by omega⟩, ‹_›⟩
    · cases e
  · rintro ⟨h1, h2⟩
    refine ⟨n.toNat, List.mem_range.2 qz8, ?_⟩
    rw [show Int.ofNat n.toNat = n from Int.toNat_of_nonneg h1.1, if_pos h2]
theorem AZ9 {h : List C2} {n : Int} : n ∈ orderT h ↔ (0 ≤ n ∧ n < (h.length : Int)) ∧ (deedAt h n).Yes = true := by rw [(BH0 h).mem_iff, Bv2]
theorem Bv3 (h : List C2) : (d5 h).length ≤ h.length := by
  unfold d5
  exact Nat.le_trans (List.length_filterMap_le _ _) (by rw [List.length_range]; exact Nat.le_refl _)
theorem Aj8 (h : List C2) : (orderT h).length ≤ h.length := by rw [(BH0 h).length_eq]; exact Bv3 h
theorem Aq1 {h : List C2} : ∀ {o : List Int} {rows : List A9} {r : Bool} {x : List A9}, playO h o rows r = some (x, true) → r = true
  | [], rows, r, x, e => by unfold playO at e; injection e with e; exact (Prod.mk.inj e).2
  | n :: o, rows, r, x, e => by
    unfold playO at e
    split at e
    · split at e
      · have := Aq1 e
        rw [Bool.and_eq_true] at this
        exact this.1
      · cases e
    · exact Aq1 e
def AccW (h : List C2) (rows : List A9) (k : Str) (a : Int) : Prop := (a = -1 ∧ lookW rows k = none) ∨ ((0 ≤ a ∧ a < (h.length : Int)) ∧ ∃ w ∈ (deedAt h a).Writes, w.Key = k ∧ lookW rows k = (some w).filter fun w => !w.Gone)
theorem Bh4 {h : List C2} (g : goodHist h = true) {k : Str} : ∀ {p : List Int} {rows : List A9} {r : Bool} {a : Int} {rows' : List A9} {r' : Bool}, Af0 rows → AccW h rows k a → (∀ n ∈ p, (0 ≤ n ∧ n < (h.length : Int)) ∧ (deedAt h n).Yes = true) → playO h p rows r = some (rows', r') → Af0 rows' ∧ AccW h rows' k (p.foldl (fun a m => if hasK (deedAt h m).Writes k = true then m else a) a)
  | [], rows, r, a, rows', r', h1, h2, _, e => by
    unfold playO at e
    injection e with e
    have := (Prod.mk.inj e).1
    subst this
    exact ⟨h1, h2⟩
  | n :: p, rows, r, a, rows', r', h1, h2, hp, e => by
    obtain ⟨hn, hy⟩ := hp n List.mem_cons_self
    have hw := Ac5 (Ap9 g (AU0 hn).1)
    have hok := putD_ok h1 hw.2.1
    unfold playO at e
    rw [if_pos hy] at e
    split at e
    · rw [List.foldl_cons]
      refine Bh4 g hok ?_ (fun m hm => hp m (List.mem_cons_of_mem _ hm)) e
      by_cases hk : hasK (deedAt h n).Writes k = true
      · rw [if_pos hk]
        obtain ⟨w, hwm, hwk⟩ := m8.1 hk
        refine .inr ⟨hn, w, hwm, hwk, ?_⟩
        rw [BU9 h1.1, ← hwk, BG7 h1.1 hw.2.2 hwm]
      · rw [if_neg hk]
        have hnk : k ∉ O8 (deedAt h n).Writes := fun hm => by
          obtain ⟨w, hwm, hwk⟩ := List.mem_map.1 hm
          exact hk (m8.2 ⟨w, hwm, hwk⟩)
        unfold AccW
        rw [putD_out h1 hnk]
        exact h2
    · cases e
theorem Bh5 {o : List Int} {n : Int} (h : n ∈ o) : ∃ q, o = T3 o n ++ n :: q := by
  unfold T3
  induction o with
  | nil => cases h
  | cons x o ih =>
    by_cases e : x = n
    · subst e
      exact ⟨o, by rw [List.takeWhile_cons_of_neg S5]; rfl⟩
    · rcases List.mem_cons.1 h with h | h
      · exact absurd h.symm e
      · obtain ⟨q, hq⟩ := ih h
        refine ⟨q, ?_⟩
        rw [List.takeWhile_cons_of_pos (by simpa using e), AL8, ← hq]
theorem seen_law {h : List C2} {n : Int} (hs : AG6 h = (true, true)) (hn : (AI5 h n).2 = true) {i : Nat} {g : G5} {m : Int} (hg : (deedAt h n).Got[i]? = some g) (hm : (AI5 h n).1[i]? = some m) : ¬ (m < 0 ∧ g.There = true) ∧ m < (h.length : Int) ∧ (0 ≤ m → ∃ w ∈ (deedAt h m).Writes, w.Key = g.Key ∧ w.Val = g.Val ∧ w.Gone = !g.There) := by
  unfold AI5 at hn hm
  split at hn
  · rename_i hc
    rw [if_pos hc] at hm
    rw [Bool.and_eq_true, Bool.and_eq_true] at hc
    obtain ⟨⟨hgood, hin⟩, hy⟩ := hc
    unfold within at hin
    rw [Bool.and_eq_true, decide_eq_true_eq, decide_eq_true_eq] at hin
    have hr : 0 ≤ n ∧ n < (h.length : Int) := by omega
    dsimp only at hm
    rw [List.getElem?_map, hg, Option.map_some] at hm
    injection hm with hm
    unfold AG6 at hs
    rw [if_pos hgood] at hs
    unfold Al3 at hs
    split at hs
    · rename_i ho
      have hw := (Prod.mk.inj hs).1
      simp only [Bool.and_eq_true] at hw
      obtain ⟨_, hp1, hp2⟩ := hw
      unfold playR at hp1 hp2
      rw [if_pos ho] at hp1 hp2
      cases hp : playO h (orderT h) [] true with
      | none => rw [hp] at hp1; cases hp1
      | some x =>
        rw [hp] at hp2
        obtain ⟨rows, r⟩ := x
        dsimp only at hp2
        subst hp2
        obtain ⟨q, hq⟩ := Bh5 (AZ9.2 ⟨hr, hy⟩)
        have hp' := hp
        rw [hq, Aq0] at hp'
        cases e1 : playO h (T3 (orderT h) n) [] true with
        | none => rw [e1] at hp'; cases hp'
        | some z =>
          obtain ⟨r1, f1⟩ := z
          rw [e1, Option.bind_some] at hp'
          dsimp only at hp'
          unfold playO at hp'
          rw [if_pos hy] at hp'
          split at hp'
          · have hf := Aq1 hp'
            rw [Bool.and_eq_true] at hf
            have hall := hf.2
            unfold confirms at hall
            rw [List.all_eq_true] at hall
            have ht := of_decide_eq_true (hall g (C4 hg))
            have hacc := (Bh4 hgood (k := g.Key) (rows := []) (r := true) (a := -1) ⟨rfl, fun w hw => by cases hw⟩ (.inl ⟨rfl, rfl⟩) (fun m hm => AZ9.1 (by rw [hq]; exact List.mem_append_left _ hm)) e1).2
            have hmm : (T3 (orderT h) n).foldl (fun a m => if hasK (deedAt h m).Writes g.Key = true then m else a) (-1) = m := hm
            rw [hmm] at hacc
            rcases hacc with ⟨ha, hl⟩ | ⟨ha, w, hw1, hw2, hl⟩
            · subst ha
              unfold tell at ht
              rw [hl] at ht
              dsimp only at ht
              refine ⟨fun hh => ?_, by omega, fun h0 => by omega⟩
              have := hh.2
              rw [← ht] at this
              cases this
            · refine ⟨fun hh => by omega, ha.2, fun _ => ⟨w, hw1, hw2, ?_⟩⟩
              have hwg := (Ac5 (Ap9 hgood (AU0 ha).1)).2.1 w hw1
              unfold tell at ht
              rw [hl, Option.filter_some] at ht
              cases hgone : w.Gone with
              | false =>
                rw [hgone, if_pos (show (!false) = true from rfl)] at ht
                dsimp only at ht
                rw [← ht]
                exact ⟨rfl, rfl⟩
              | true =>
                rw [hgone, if_neg (show ¬ (!true) = true by decide)] at ht
                dsimp only at ht
                unfold wGood l3Write at hwg
                simp only [Bool.and_eq_true, Bool.or_eq_true, Bool.not_eq_true'] at hwg
                have hv : w.Val = [] := by
                  rcases hwg.2 with k | k
                  · rw [hgone] at k; cases k
                  · simpa using k
                rw [← ht, hv]
                exact ⟨rfl, rfl⟩
          · cases hp'
    · cases hs
  · cases hn
def AA8 (S : List Int) (x : Int) (j : Nat) (rest : List Int) : List Int := S.take j ++ x :: (S.drop j ++ rest)
theorem snk9_len {S rest : List Int} {x : Int} {j : Nat} (h : j ≤ S.length) : (AA8 S x j rest).length = S.length + 1 + rest.length := by
  unfold AA8
  rw [G3, H4, G3, G9, List.length_drop]; omega
theorem snk9_get {S rest : List Int} {x : Int} {j : Nat} (h : j ≤ S.length) : (AA8 S x j rest)[j]? = some x := by
  unfold AA8
  have hl : (S.take j).length = j := by rw [G9]; omega
  rw [List.getElem?_append_right qz8, hl, Nat.sub_self]; rfl
theorem BV2 {S rest : List Int} {x y : Int} {j : Nat} (h0 : 0 < j) (h : j ≤ S.length) (hy : S[j - 1]? = some y) : (AA8 S x j rest)[j - 1]? = some y := by
  unfold AA8
  rw [List.getElem?_append_left At7, List.getElem?_take_of_lt qz8, hy]
theorem CH8 {S rest : List Int} {x y : Int} {j : Nat} (h0 : 0 < j) (h : j ≤ S.length) (hy : S[j - 1]? = some y) : ((AA8 S x j rest).set j y).set (j - 1) x = AA8 S x (j - 1) rest := by
  unfold AA8
  obtain ⟨k, rfl⟩ : ∃ k, j = k + 1 := ⟨j - 1, by omega⟩
  rw [Nat.add_sub_cancel] at hy ⊢
  have hl : (S.take (k + 1)).length = k + 1 := by rw [G9]; omega
  have hl2 : (S.take k).length = k := by rw [G9]; omega
  rw [List.set_append_right _ _ qz8, hl, Nat.sub_self, AQ1, List.take_add_one, hy, drop_some hy]
  show ((S.take k ++ [y]) ++ y :: (S.drop (k + 1) ++ rest)).set k x = _
  rw [List.append_assoc, List.set_append_right _ _ qz8, hl2, Nat.sub_self]
  rfl
theorem CH9 {h : List C2} {S rest : List Int} {x : Int} {j : Nat} (e : posR h x S S.length = j) : AA8 S x j rest = p4 h S x ++ rest := by
  unfold AA8 p4
  rw [e, List.append_assoc]; rfl
theorem Bz5 {S rest : List Int} {x : Int} : S ++ x :: rest = AA8 S x S.length rest := by
  unfold AA8
  rw [List.take_length, List.drop_length]; rfl
theorem AM8 {h : List C2} {S : List Int} {x y : Int} {j : Nat} (h0 : 0 < j) (hy : S[j - 1]? = some y) : posR h x S j = if lessT h x y = true then posR h x S (j - 1) else j := by
  obtain ⟨k, rfl⟩ : ∃ k, j = k + 1 := ⟨j - 1, by omega⟩
  rw [Nat.add_sub_cancel] at hy ⊢
  conv => lhs; unfold posR
  rw [show S.getD k 0 = y by rw [List.getD_eq_getElem?_getD, hy]; rfl]
theorem insT_len (h : List C2) (l : List Int) (n : Int) : (p4 h l n).length = l.length + 1 := by rw [(BG9 h l n).length_eq]; rfl
def foldT (h : List C2) (l : List Int) (i : Nat) : List Int := (l.take i).foldl (p4 h) []
theorem BV3 (h : List C2) (l : List Int) : ∀ i, i ≤ l.length → (foldT h l i).length = i
  | 0, _ => rfl
  | i + 1, hi => by
    obtain ⟨x, hx⟩ := get_some (show i < l.length by omega)
    unfold foldT
    rw [List.take_add_one, hx, List.foldl_append]
    show (p4 h (foldT h l i) x).length = i + 1
    rw [insT_len, BV3 h l i qz8]
theorem Bz6 {h : List C2} {l : List Int} {i : Nat} {x : Int} (hx : l[i]? = some x) : foldT h l (i + 1) = p4 h (foldT h l i) x := by
  unfold foldT
  rw [List.take_add_one, hx, List.foldl_append]; rfl
theorem Aq2 {h : List C2} {l : List Int} {i : Nat} {x : Int} (hx : x ∈ foldT h l i) : x ∈ l := by
  have := (AS1 h (l.take i) []).mem_iff.1 hx
  rw [List.append_nil, List.mem_reverse] at this
  exact List.mem_of_mem_take this
theorem CI0 {h : List C2} {l : List Int} : foldT h l 1 = l.take 1 := by
  unfold foldT
  cases l with
  | nil => rfl
  | cons x l => rfl
end Go.M
namespace Go.Proofs.YtcfkbhnpfjjmjaaGreat
open Go Go.AV Go.M
attribute [local irreducible] OpW OpA OpS AWP B9 J2 RetOk I6 Le Ev F1
theorem s5 (a b c : Int) : B9 Tryz.prog 25 [AV.int a, AV.int b, AV.int c] (AV.bool (within a b c)) := by
  refine B7 Tryz.func25 rfl Tryz.ntmps25 rfl ?_
  refine R17 ?_
  exact D4 rfl (A8 rfl V1)
theorem M9 (a b c : Int) : B9 Tryz.prog 30 [AV.int a, AV.int b, AV.int c] (AV.bool (within a b c)) := by
  refine B7 Tryz.func30 rfl Tryz.ntmps30 rfl ?_
  refine R17 ?_
  exact D4 rfl (A8 rfl V1)
theorem Bo6 (c : UInt8) : B9 Tryz.prog 138 [AV.byte c] (AV.bool (lowDig c)) := by
  refine B7 Tryz.func138 rfl Tryz.ntmps138 rfl ?_
  refine R23 ?_
  exact D4 rfl (A8 rfl V1)
theorem idxB_ext (s : Str) (c : UInt8) : J2 Tryz.prog 175 [AV.str s, AV.byte c] (AV.int (idxB s c)) := espec_mk fun R w vs h => by
  obtain ⟨v, u, rfl, h1, h2⟩ := denV_two h
  have e1 : v = .string ⟨s.toArray⟩ := h1
  have e2 : u = .int .u8 c.toNat := h2
  subst e1; subst e2
  refine ⟨.int .i64 (idxB s c), ?_, rfl⟩
  rw [run_callFunc_indexByte Tryz.func175 F2 F2 F2 F2, run_indexByte_string]
  simp [idxB]
theorem Bz7 (s : Str) (c : UInt8) : B9 Tryz.prog 159 [AV.str s, AV.byte c] (AV.int (idxB s c)) := by
  refine B7 Tryz.func159 rfl Tryz.ntmps159 rfl ?_
  refine R8 ?_
  refine A4 rfl (w_ext rfl rfl (idxB_ext _ _) (A1 (A0 rfl) (A1 (A0 rfl) A7))) ?_
  refine R3 ?_
  exact D4 rfl (A8 rfl V1)
theorem CI1 (s : Str) (c : UInt8) : B9 Tryz.prog 139 [AV.str s, AV.byte c] (AV.int (idxB s c)) := by
  refine B7 Tryz.func139 rfl Tryz.ntmps139 rfl ?_
  refine R8 ?_
  refine A4 rfl (B2 rfl Tryz.call159 rfl (Bz7 _ _) (A1 (A0 rfl) (A1 (A0 rfl) A7))) ?_
  refine R3 ?_
  exact D4 rfl (A8 rfl V1)
theorem BV4 (s o : Str) (hs : s.length ≤ 4611686018427387904) : B9 Tryz.prog 120 [AV.str s, AV.str o] (AV.bool (hasB s o)) := by
 refine B7 Tryz.func120 rfl Tryz.ntmps120 rfl ?_
 refine R12 ?_
 refine E2 [(0, _), (1, _), (7, _)] _ (fun (i : Nat) => i ≤ s.length ∧ hasB s o = hasB (s.drop i) o) (fun (i : Nat) => []) (fun (i : Nat) => [(8, AV.int i)]) (fun (i : Nat) => s.length - i) (0) ?_ (E7 ⟨rfl, rfl, rfl, rfl, trivial⟩) ?_
 ·exact ⟨Nat.zero_le _, rfl⟩
 intro i hinv
 refine R5 ?_
 refine A6 (A0 rfl) ?_ ?_
 ·intro h9
  have k9 := of_decide_eq_true h9; try simp only [A5] at k9
  have hlt : i < s.length := by have := of_decide_eq_true h9; omega
  obtain ⟨c, hc⟩ := get_some hlt
  refine R12 ?_
  refine A4 rfl (t7 rfl M5 (A0 rfl) (A0 rfl) qz3 n3) ?_
  refine A4 rfl (B2 rfl Tryz.call138 rfl (Bo6 _) (A1 (A0 rfl) A7)) ?_
  refine R5 ?_
  refine L4 rfl (fun hc => t7 rfl M5 (B1 rfl hc) (B1 rfl hc) qz5 n3) ?_
  refine L4 rfl (fun hc => B2 rfl Tryz.call139 rfl (CI1 _ _) (A1 (B1 rfl hc) (A1 (B1 rfl hc) A7))) ?_
  refine R3 ?_
  refine A6 (A0 rfl) ?_ ?_
  ·intro h23
   have hfin : hasB s o = false := by rw [hinv.2, drop_some hc, BT0, h23]; rfl
   refine R5 ?_
   exact D4 rfl (A8 rfl (by first | exact congrArg AV.bool hfin.symm | exact congrArg AV.bool Af6))
  intro h23
  refine R5 ?_
  refine E9 i (i + 1) ?_ ?_ (E7 ⟨rfl, rfl, rfl, rfl, trivial⟩)
  ·exact ⟨by omega, by rw [hinv.2, drop_some hc, BT0, h23]; rfl⟩
  omega
 intro h9
 have k9 := of_decide_eq_false h9; try simp only [A5] at k9
 have hge : s.length ≤ i := by have := of_decide_eq_false h9; omega
 refine R6 ?_
 exact D4 rfl (A8 rfl (by first | exact congrArg AV.bool hfin.symm | exact congrArg AV.bool Af6))
theorem Aq3 (s o : Str) (hs : s.length ≤ 4611686018427387904) (ho : o.length ≤ 4611686018427387904) : B9 Tryz.prog 122 [AV.str s, AV.str o] (AV.bool (l3Bytes s o)) := by
 refine B7 Tryz.func122 rfl Tryz.ntmps122 rfl ?_
 refine R10 ?_
 refine E2 [(0, _), (1, _)] _ (fun (i : Nat) => i ≤ s.length ∧ l3Bytes s o = l3Bytes (s.drop i) o) (fun (i : Nat) => []) (fun (i : Nat) => [(5, AV.int i)]) (fun (i : Nat) => s.length - i) (0) ?_ (E7 ⟨rfl, rfl, rfl, trivial⟩) ?_
 ·exact ⟨Nat.zero_le _, rfl⟩
 intro i hinv
 have hinv0 := hinv; clear hinv
 refine R8 ?_
 refine A6 (A0 rfl) ?_ ?_
 ·intro h11
  have k11 := of_decide_eq_true h11; try simp only [A5] at k11
  have hlt : i < s.length := by have := of_decide_eq_true h11; omega
  obtain ⟨c, hc⟩ := get_some hlt
  refine R7 ?_
  refine A4 rfl (t7 rfl M5 (A0 rfl) (A0 rfl) qz3 n3) ?_
  refine R4 ?_
  refine L4 rfl (fun hc => t7 rfl M5 (B1 rfl hc) (B1 rfl hc) qz5 n3) ?_
  refine R5 ?_
  refine U1 rfl (fun hc => t7 rfl M5 (B1 rfl hc) (B1 rfl hc) qz5 n3) ?_
  refine R4 ?_
  refine c7 rfl rfl (U6 rfl rfl rfl) (fun hc => t7 rfl M5 (B1 rfl hc) (B1 rfl hc) qz5 n3) ?_
  refine R11 ?_
  refine J0 [(0, _), (1, _), (5, _), (8, _), (9, _), (10, _), (11, _), (14, _), (15, _), (16, _), (17, _), (18, _), (23, _), (24, _), (35, _)] _ (fun (k : Nat) (b : Bool) => k ≤ o.length ∧ (lowDig c || o.any fun d => ((c.toNat : Int) == (d.toNat : Int))) = (b || (o.drop k).any fun d => ((c.toNat : Int) == (d.toNat : Int)))) (fun (k : Nat) (b : Bool) => []) (fun (k : Nat) (b : Bool) => [(6, AV.bool b), (7, AV.int k)]) (fun (k : Nat) (b : Bool) => o.length - k) (0) (lowDig c) ?_ (E7 ⟨rfl, rfl, rfl, rfl, rfl, rfl, rfl, rfl, rfl, rfl, rfl, rfl, rfl, rfl, rfl, rfl, rfl, trivial⟩) ?_
  ·exact ⟨Nat.zero_le _, rfl⟩
  intro k b hinv
  refine R8 ?_
  refine A6 (A0 rfl) ?_ ?_
  ·intro h39
   have k39 := of_decide_eq_true h39; try simp only [A5] at k39
   have hlt2 : k < o.length := by have := of_decide_eq_true h39; omega
   obtain ⟨d, hd⟩ := get_some hlt2
   refine R8 ?_
   refine L2 rfl (S2 rfl rfl rfl) (fun hc => t7 rfl M5 (B1 rfl hc) (B1 rfl hc) qz5 n3) ?_
   refine R2 ?_
   refine L2 rfl (S2 rfl rfl rfl) (fun hc => t7 rfl M5 (B1 rfl hc) (B1 rfl hc) qz5 n3) ?_
   refine R9 ?_
   refine G4 k b (k + 1) ((b || ((c.toNat : Int) == (d.toNat : Int)))) ?_ ?_ (E7 ⟨rfl, rfl, rfl, rfl, rfl, rfl, rfl, rfl, rfl, rfl, rfl, rfl, rfl, rfl, rfl, rfl, rfl, trivial⟩)
   ·exact ⟨by omega, by rw [hinv.2, drop_some hd, List.any_cons, Bool.or_assoc]⟩
   omega
  intro h39
  have k39 := of_decide_eq_false h39; try simp only [A5] at k39
  have hge2 : o.length ≤ k := by have := of_decide_eq_false h39; omega
  have hg : (lowDig c || o.any fun d => ((c.toNat : Int) == (d.toNat : Int))) = b := by rw [hinv.2, List.drop_eq_nil_of_le hge2]; simp
  refine R6 ?_
  refine A6 (A0 rfl) ?_ ?_
  ·intro h53
   have hfin : l3Bytes s o = false := by rw [hinv0.2, drop_some hc, Ao6, hg]; cases b <;> simp_all
   refine R5 ?_
   exact D4 rfl (A8 rfl qz157)
  intro h53
  have hb : b = true := by cases b <;> simp_all
  refine R6 ?_
  refine E9 i (i + 1) ?_ ?_ (E7 ⟨rfl, rfl, rfl, trivial⟩)
  ·exact ⟨by omega, by rw [hinv0.2, drop_some hc, Ao6, hg, hb]; rfl⟩
  omega
 intro h11
 have k11 := of_decide_eq_false h11; try simp only [A5] at k11
 have hge : s.length ≤ i := by have := of_decide_eq_false h11; omega
 refine R6 ?_
 exact D4 rfl (A8 rfl qz157)
theorem Aq4 (s : Str) (hs : s.length ≤ 4611686018427387904) : B9 Tryz.prog 93 [AV.str s] (AV.bool (goodKey s)) := by
  refine B7 Tryz.func93 rfl Tryz.ntmps93 rfl ?_
  refine R8 ?_
  refine A4 rfl (B2 rfl Tryz.call25 rfl (s5 _ _ _) (A1 (A0 rfl) (A1 D8 (A1 D8 A7)))) ?_
  refine R2 ?_
  refine L4 rfl (fun hc => B2 rfl Tryz.call120 rfl (BV4 _ _ qz8) (A1 (B1 rfl hc) (A1 (L5 (l := [46, 47]) rfl) A7))) ?_
  refine R4 ?_
  exact D4 rfl (A8 rfl V1)
theorem Bh6 (s : Str) (hs : s.length ≤ 4611686018427387904) : B9 Tryz.prog 121 [AV.str s] (AV.bool (goodVal s)) := by
  refine B7 Tryz.func121 rfl Tryz.ntmps121 rfl ?_
  refine R11 ?_
  refine L4 rfl (fun hc => B2 rfl Tryz.call120 rfl (BV4 _ _ qz8) (A1 (B1 rfl hc) (A1 (L5 (l := [46, 45, 44, 95]) rfl) A7))) ?_
  refine R4 ?_
  exact D4 rfl (A8 rfl V1)
theorem AA0 (s : Str) (hs : s.length ≤ 4611686018427387904) : B9 Tryz.prog 99 [AV.str s] (AV.bool (l3Key s)) := by
  refine B7 Tryz.func99 rfl Tryz.ntmps99 rfl ?_
  refine R8 ?_
  refine A4 rfl (B2 rfl Tryz.call30 rfl (M9 _ _ _) (A1 (A0 rfl) (A1 D8 (A1 D8 A7)))) ?_
  refine R2 ?_
  refine L4 rfl (fun hc => B2 rfl Tryz.call122 rfl (Aq3 _ _ qz8 D3) (A1 (B1 rfl hc) (A1 (L5 (l := [46, 47]) rfl) A7))) ?_
  refine R4 ?_
  exact D4 rfl (A8 rfl V1)
theorem AO0 (l : List A9) (pre : A9 → Prop) (f : A9 → Bool) (hp : ∀ x ∈ l, pre x) : B9 Tryz.prog 116 [AV.list 3 (l.map A9.cs), AV.fun1 Tryz.prog pre (fun a => AV.agg a.cs) (fun a => AV.bool (f a))] (AV.int (idxFrom f l 0)) := by
 refine B7 Tryz.func116 rfl Tryz.ntmps116 rfl ?_
 refine S1 (t := 0) rfl fun hl => ?_
 try simp only [A5] at hl
 refine R12 ?_
 refine E2 [(0, _), (1, _), (7, _)] _ (fun (i : Nat) => i ≤ l.length ∧ idxFrom f l 0 = idxFrom f (l.drop i) i) (fun (i : Nat) => []) (fun (i : Nat) => [(8, AV.int i)]) (fun (i : Nat) => l.length - i) (0) ?_ (E7 ⟨rfl, rfl, rfl, rfl, trivial⟩) ?_
 ·exact ⟨Nat.zero_le _, rfl⟩
 intro i hinv
 refine R5 ?_
 refine A6 (A0 rfl) ?_ ?_
 ·intro h9
  have k9 := of_decide_eq_true h9; try simp only [A5] at k9
  have hlt : i < l.length := by omega
  obtain ⟨x, hx⟩ := get_some hlt
  refine R13 ?_
  refine A4 rfl (C7 rfl C0 E5 (A0 rfl) (A0 rfl) hx qz3) ?_
  refine R1 ?_
  refine A4 rfl (AI7 rfl (A0 rfl) x (hp x (C4 hx)) (A0 rfl)) ?_
  refine R1 ?_
  refine A6 (A0 rfl) ?_ ?_
  ·intro h16
   refine R6 ?_
   exact D4 rfl (A8 rfl Ab8)
  intro h16
  refine R5 ?_
  refine E9 i (i + 1) ?_ ?_ (E7 ⟨rfl, rfl, rfl, rfl, trivial⟩)
  ·exact ⟨by omega, by rw [hinv.2, drop_some hx, idxFrom, h16]; simp⟩
  omega
 intro h9
 have k9 := of_decide_eq_false h9; try simp only [A5] at k9
 have hge : l.length ≤ i := by omega
 refine R6 ?_
 exact D4 rfl (A8 rfl Ab8)
theorem Ac6 (l : List A9) (pre : A9 → Prop) (f : A9 → Bool) (hp : ∀ x ∈ l, pre x) : B9 Tryz.prog 83 [AV.list 3 (l.map A9.cs), AV.fun1 Tryz.prog pre (fun a => AV.agg a.cs) (fun a => AV.bool (f a))] (AV.bool (l.any f)) := by
  refine B7 Tryz.func83 rfl Tryz.ntmps83 rfl ?_
  refine R8 ?_
  refine A4 rfl (B2 rfl Tryz.call116 rfl (AO0 _ _ _ BA0) (A1 (A0 rfl) (A1 (A0 rfl) A7))) ?_
  refine R4 ?_
  exact D4 rfl (A8 rfl Bc5)
theorem Aw4 (l : List G5) (pre : G5 → Prop) (f : G5 → Bool) (hp : ∀ x ∈ l, pre x) : B9 Tryz.prog 118 [AV.list 3 (l.map G5.cs), AV.fun1 Tryz.prog pre (fun a => AV.agg a.cs) (fun a => AV.bool (f a))] (AV.int (idxFrom f l 0)) := by
 refine B7 Tryz.func118 rfl Tryz.ntmps118 rfl ?_
 refine S1 (t := 0) rfl fun hl => ?_
 try simp only [A5] at hl
 refine R12 ?_
 refine E2 [(0, _), (1, _), (7, _)] _ (fun (i : Nat) => i ≤ l.length ∧ idxFrom f l 0 = idxFrom f (l.drop i) i) (fun (i : Nat) => []) (fun (i : Nat) => [(8, AV.int i)]) (fun (i : Nat) => l.length - i) (0) ?_ (E7 ⟨rfl, rfl, rfl, rfl, trivial⟩) ?_
 ·exact ⟨Nat.zero_le _, rfl⟩
 intro i hinv
 refine R5 ?_
 refine A6 (A0 rfl) ?_ ?_
 ·intro h9
  have k9 := of_decide_eq_true h9; try simp only [A5] at k9
  have hlt : i < l.length := by omega
  obtain ⟨x, hx⟩ := get_some hlt
  refine R13 ?_
  refine A4 rfl (C7 rfl J3 N5 (A0 rfl) (A0 rfl) hx qz3) ?_
  refine R1 ?_
  refine A4 rfl (AI7 rfl (A0 rfl) x (hp x (C4 hx)) (A0 rfl)) ?_
  refine R1 ?_
  refine A6 (A0 rfl) ?_ ?_
  ·intro h16
   refine R6 ?_
   exact D4 rfl (A8 rfl Ab8)
  intro h16
  refine R5 ?_
  refine E9 i (i + 1) ?_ ?_ (E7 ⟨rfl, rfl, rfl, rfl, trivial⟩)
  ·exact ⟨by omega, by rw [hinv.2, drop_some hx, idxFrom, h16]; simp⟩
  omega
 intro h9
 have k9 := of_decide_eq_false h9; try simp only [A5] at k9
 have hge : l.length ≤ i := by omega
 refine R6 ?_
 exact D4 rfl (A8 rfl Ab8)
theorem AM9 (l : List G5) (pre : G5 → Prop) (f : G5 → Bool) (hp : ∀ x ∈ l, pre x) : B9 Tryz.prog 86 [AV.list 3 (l.map G5.cs), AV.fun1 Tryz.prog pre (fun a => AV.agg a.cs) (fun a => AV.bool (f a))] (AV.bool (l.any f)) := by
  refine B7 Tryz.func86 rfl Tryz.ntmps86 rfl ?_
  refine R8 ?_
  refine A4 rfl (B2 rfl Tryz.call118 rfl (Aw4 _ _ _ BA0) (A1 (A0 rfl) (A1 (A0 rfl) A7))) ?_
  refine R4 ?_
  exact D4 rfl (A8 rfl Bc5)
theorem Aq5 (l : List C2) (pre : C2 → Prop) (f : C2 → Bool) (hp : ∀ x ∈ l, pre x) : B9 Tryz.prog 108 [AV.list 8 (l.map C2.cs), AV.fun1 Tryz.prog pre (fun a => AV.agg a.cs) (fun a => AV.bool (f a))] (AV.int (idxFrom f l 0)) := by
 refine B7 Tryz.func108 rfl Tryz.ntmps108 rfl ?_
 refine S1 (t := 0) rfl fun hl => ?_
 try simp only [A5] at hl
 refine R12 ?_
 refine E2 [(0, _), (1, _), (7, _)] _ (fun (i : Nat) => i ≤ l.length ∧ idxFrom f l 0 = idxFrom f (l.drop i) i) (fun (i : Nat) => []) (fun (i : Nat) => [(8, AV.int i)]) (fun (i : Nat) => l.length - i) (0) ?_ (E7 ⟨rfl, rfl, rfl, rfl, trivial⟩) ?_
 ·exact ⟨Nat.zero_le _, rfl⟩
 intro i hinv
 refine R5 ?_
 refine A6 (A0 rfl) ?_ ?_
 ·intro h9
  have k9 := of_decide_eq_true h9; try simp only [A5] at k9
  have hlt : i < l.length := by omega
  obtain ⟨x, hx⟩ := get_some hlt
  refine R13 ?_
  refine A4 rfl (C7 rfl F8 J4 (A0 rfl) (A0 rfl) hx qz3) ?_
  refine R1 ?_
  refine A4 rfl (AI7 rfl (A0 rfl) x (hp x (C4 hx)) (A0 rfl)) ?_
  refine R1 ?_
  refine A6 (A0 rfl) ?_ ?_
  ·intro h16
   refine R6 ?_
   exact D4 rfl (A8 rfl Ab8)
  intro h16
  refine R5 ?_
  refine E9 i (i + 1) ?_ ?_ (E7 ⟨rfl, rfl, rfl, rfl, trivial⟩)
  ·exact ⟨by omega, by rw [hinv.2, drop_some hx, idxFrom, h16]; simp⟩
  omega
 intro h9
 have k9 := of_decide_eq_false h9; try simp only [A5] at k9
 have hge : l.length ≤ i := by omega
 refine R6 ?_
 exact D4 rfl (A8 rfl Ab8)
theorem Ae4 (l : List C2) (pre : C2 → Prop) (f : C2 → Bool) (hp : ∀ x ∈ l, pre x) : B9 Tryz.prog 71 [AV.list 8 (l.map C2.cs), AV.fun1 Tryz.prog pre (fun a => AV.agg a.cs) (fun a => AV.bool (f a))] (AV.bool (l.any f)) := by
  refine B7 Tryz.func71 rfl Tryz.ntmps71 rfl ?_
  refine R8 ?_
  refine A4 rfl (B2 rfl Tryz.call108 rfl (Aq5 _ _ _ BA0) (A1 (A0 rfl) (A1 (A0 rfl) A7))) ?_
  refine R4 ?_
  exact D4 rfl (A8 rfl Bc5)
theorem Aw5 (l : List Int) (pre : Int → Prop) (f : Int → Bool) (hp : ∀ x ∈ l, pre x) : B9 Tryz.prog 60 [ints l, AV.fun1 Tryz.prog pre (fun a => AV.int a) (fun a => AV.bool (f a))] (AV.int (idxFrom f l 0)) := by
 refine B7 Tryz.func60 rfl Tryz.ntmps60 rfl ?_
 refine S1 (t := 0) rfl fun hl => ?_
 try simp only [A5] at hl
 refine R12 ?_
 refine E2 [(0, _), (1, _), (7, _)] _ (fun (i : Nat) => i ≤ l.length ∧ idxFrom f l 0 = idxFrom f (l.drop i) i) (fun (i : Nat) => []) (fun (i : Nat) => [(8, AV.int i)]) (fun (i : Nat) => l.length - i) (0) ?_ (E7 ⟨rfl, rfl, rfl, rfl, trivial⟩) ?_
 ·exact ⟨Nat.zero_le _, rfl⟩
 intro i hinv
 refine R5 ?_
 refine A6 (A0 rfl) ?_ ?_
 ·intro h9
  have k9 := of_decide_eq_true h9; try simp only [A5] at k9
  have hlt : i < l.length := by omega
  obtain ⟨x, hx⟩ := get_some hlt
  refine R13 ?_
  refine A4 rfl (C7 rfl B4 B6 (A0 rfl) (A0 rfl) hx qz3) ?_
  refine R1 ?_
  refine A4 rfl (AI7 rfl (A0 rfl) x (hp x (C4 hx)) (A0 rfl)) ?_
  refine R1 ?_
  refine A6 (A0 rfl) ?_ ?_
  ·intro h16
   refine R6 ?_
   exact D4 rfl (A8 rfl Ab8)
  intro h16
  refine R5 ?_
  refine E9 i (i + 1) ?_ ?_ (E7 ⟨rfl, rfl, rfl, rfl, trivial⟩)
  ·exact ⟨by omega, by rw [hinv.2, drop_some hx, idxFrom, h16]; simp⟩
  omega
 intro h9
 have k9 := of_decide_eq_false h9; try simp only [A5] at k9
 have hge : l.length ≤ i := by omega
 refine R6 ?_
 exact D4 rfl (A8 rfl Ab8)
theorem Aj9 (l : List Int) (pre : Int → Prop) (f : Int → Bool) (hp : ∀ x ∈ l, pre x) : B9 Tryz.prog 34 [ints l, AV.fun1 Tryz.prog pre (fun a => AV.int a) (fun a => AV.bool (f a))] (AV.bool (l.any f)) := by
  refine B7 Tryz.func34 rfl Tryz.ntmps34 rfl ?_
  refine R8 ?_
  refine A4 rfl (B2 rfl Tryz.call60 rfl (Aw5 _ _ _ BA0) (A1 (A0 rfl) (A1 (A0 rfl) A7))) ?_
  refine R4 ?_
  exact D4 rfl (A8 rfl Bc5)
theorem Ac7 (l : List A9) (v : Str) (pre : A9 → Str → Prop) (hp : ∀ x ∈ l, pre x v) (f : A9 → Str → Int) (hl2 : l.length ≤ 4611686018427387903) : B9 Tryz.prog 78 [AV.list 3 (l.map A9.cs), AV.str v, AV.fun2 Tryz.prog pre (fun a => AV.agg a.cs) (fun b => AV.str b) (fun a b => AV.int (f a b))] (AV.tup [AV.int (bs (fun x => f x v) l 0 l.length), AV.bool (BR3 (fun x => f x v) l (bs (fun x => f x v) l 0 l.length))]) := by
 refine B7 Tryz.func78 rfl Tryz.ntmps78 rfl ?_
 refine S1 (t := 0) rfl fun hl => ?_
 try simp only [A5] at hl
 refine R19 ?_
 refine J0 [(0, _), (1, _), (2, _), (6, _), (7, _), (8, _)] _ (fun (i : Nat) (j : Nat) => i ≤ j ∧ j ≤ l.length ∧ bs (fun x => f x v) l 0 l.length = bs (fun x => f x v) l i j) (fun (i : Nat) (j : Nat) => []) (fun (i : Nat) (j : Nat) => [(9, AV.int i), (10, AV.int j)]) (fun (i : Nat) (j : Nat) => j - i) (0) ((l.map A9.cs).length) ?_ (E7 ⟨rfl, rfl, rfl, rfl, rfl, rfl, rfl, rfl, trivial⟩) ?_
 ·exact ⟨Nat.zero_le _, by simp, by simp⟩
 intro i j hinv
 refine R7 ?_
 refine A6 (A0 rfl) ?_ ?_
 ·intro h17
  have k17 := of_decide_eq_true h17; try simp only [A5] at k17
  have hlt : i < j := by omega
  obtain ⟨x, hx⟩ := get_some (show (i + j) / 2 < l.length by omega)
  refine R6 ?_
  refine A4 rfl (Ad3 rfl (A0 rfl) (A0 rfl) qz8) ?_
  refine A4 rfl (AG8 rfl F2 Tryz.underlying95 (A0 rfl)) ?_
  refine A4 rfl (w_shr rfl (A0 rfl) D8 D3 D3) ?_
  refine A4 rfl (AG8 rfl F2 c5 (A0 rfl)) ?_
  refine R4 ?_
  rw [half_eq qz8]
  refine R3 ?_
  refine A4 rfl (C7 rfl C0 E5 (A0 rfl) (A0 rfl) hx qz3) ?_
  refine R2 ?_
  refine A4 rfl (BA7 rfl (A0 rfl) x v (hp x (C4 hx)) (A0 rfl) (A0 rfl)) ?_
  refine R2 ?_
  refine A6 (A0 rfl) ?_ ?_
  ·intro h31
   have k31 := of_decide_eq_true h31; try simp only [A5] at k31
   refine R5 ?_
   refine AA9 ?_
   refine G4 i j ((i + j) / 2 + 1) (j) ?_ ?_ (E7 ⟨rfl, rfl, rfl, rfl, rfl, rfl, rfl, rfl, trivial⟩)
   ·exact ⟨by omega, by omega, by rw [hinv.2.2, bs_lo hlt hx k31]⟩
   omega
  intro h31
  have k31 := of_decide_eq_false h31; try simp only [A5] at k31
  refine R4 ?_
  refine AA9 ?_
  refine G4 i j (i) ((i + j) / 2) ?_ ?_ (E7 ⟨rfl, rfl, rfl, rfl, rfl, rfl, rfl, rfl, trivial⟩)
  ·exact ⟨by omega, by omega, by rw [hinv.2.2, bs_hi hlt hx k31]⟩
  omega
 intro h17
 have k17 := of_decide_eq_false h17; try simp only [A5] at k17
 have hge : bs (fun x => f x v) l 0 l.length = i := by rw [hinv.2.2, Bf6 qz8]
 obtain ⟨y, hy⟩ := AB6 l i
 refine R11 ?_
 refine L4 rfl (fun hc => C7 rfl C0 E5 (B1 rfl hc) (B1 rfl hc) (hy qz5) rfl) ?_
 refine R2 ?_
 refine L4 rfl (fun hc => BA7 rfl (B1 rfl hc) y v (hp y (C4 (hy qz5))) (B1 rfl hc) (B1 rfl hc)) ?_
 refine R6 ?_
 exact U2 rfl D3 (B8 (A8 rfl qz84) (B8 (A8 rfl qz84) G6))
theorem Al7 (l : List Int) (v : Int) : B9 Tryz.prog 46 [ints l, AV.int v] (AV.int (idxFrom (fun x => v == x) l 0)) := by
 refine B7 Tryz.func46 rfl Tryz.ntmps46 rfl ?_
 refine S1 (t := 0) rfl fun hl => ?_
 try simp only [A5] at hl
 refine R12 ?_
 refine E2 [(0, _), (1, _), (7, _)] _ (fun (i : Nat) => i ≤ l.length ∧ idxFrom (fun x => v == x) l 0 = idxFrom (fun x => v == x) (l.drop i) i) (fun (i : Nat) => []) (fun (i : Nat) => [(8, AV.int i)]) (fun (i : Nat) => l.length - i) (0) ?_ (E7 ⟨rfl, rfl, rfl, rfl, trivial⟩) ?_
 ·exact ⟨Nat.zero_le _, rfl⟩
 intro i hinv
 refine R5 ?_
 refine A6 (A0 rfl) ?_ ?_
 ·intro h9
  have k9 := of_decide_eq_true h9; try simp only [A5] at k9
  have hlt : i < l.length := by omega
  obtain ⟨x, hx⟩ := get_some hlt
  refine R13 ?_
  refine A4 rfl (C7 rfl B4 B6 (A0 rfl) (A0 rfl) hx qz3) ?_
  refine R3 ?_
  refine A6 (A0 rfl) ?_ ?_
  ·intro h16
   have k16 := D1 h16; try simp only [A5] at k16
   refine R6 ?_
   exact D4 rfl (A8 rfl Ab8)
  intro h16
  have k16 := D5 h16; try simp only [A5] at k16
  refine R5 ?_
  refine E9 i (i + 1) ?_ ?_ (E7 ⟨rfl, rfl, rfl, rfl, trivial⟩)
  ·exact ⟨by omega, by rw [hinv.2, drop_some hx, idxFrom, h16]; simp⟩
  omega
 intro h9
 have k9 := of_decide_eq_false h9; try simp only [A5] at k9
 have hge : l.length ≤ i := by omega
 refine R6 ?_
 exact D4 rfl (A8 rfl Ab8)
theorem AX2 (l : List Int) (v : Int) : B9 Tryz.prog 37 [ints l, AV.int v] (AV.bool (l.any fun x => v == x)) := by
  refine B7 Tryz.func37 rfl Tryz.ntmps37 rfl ?_
  refine R8 ?_
  refine A4 rfl (B2 rfl Tryz.call46 rfl (Al7 _ _) (A1 (A0 rfl) (A1 (A0 rfl) A7))) ?_
  refine R4 ?_
  exact D4 rfl (A8 rfl (by exact congrArg AV.bool (Ac2 (fun x => v == x) l 0 (Int.le_refl 0))))
theorem BH2 (l : List A9) (hl : l.length ≤ 4194304) : C9 Tryz.prog 89 [AV.list 3 (l.map A9.cs)] [] (fun _ : Value => True) (fun v => [.arr v 47 3 (l.map A9.cs)]) (fun v => AV.is v) := by
 refine C6 Tryz.func89 rfl Tryz.ntmps89 rfl ?_
 refine Bn6 0 rfl ?_ ?_
 ·intro hnil
  have hn : l = [] := by cases l with | nil => rfl | cons x l => simp at hnil
  subst hn
  refine R2 ?_
  refine P1 47 3 rfl rfl rfl rfl G8 ?_
  intro v2
  refine R5 ?_
  refine A4 rfl (w_eqnil rfl C0 (A0 rfl)) ?_
  refine R1 ?_
  refine A6 (A0 rfl) ?_ ?_
  ·intro h4
   refine R2 ?_
   refine P1 47 3 rfl rfl rfl rfl G8 ?_
   intro v2
   refine R2 ?_
   exact I0 [0] v2 (trivial) rfl B0 (E4 rfl (A8 rfl V1))
  intro h4
  cases h4
 skip
 refine R2 ?_
 refine P1 47 3 rfl rfl rfl rfl G8 ?_
 intro v2
 refine R5 ?_
 refine A4 rfl (w_eqnnl rfl C0 (A0 rfl)) ?_
 refine R1 ?_
 refine A6 (A0 rfl) ?_ ?_
 ·intro h4
  cases h4
 intro h4
 refine R3 ?_
 refine N3 rfl rfl rfl rfl C0 E5 ?_
 intro v5
 refine R1 ?_
 refine F6 (by' := 40) 0 rfl rfl rfl rfl C0 Tryz.type47 rfl rfl rfl rfl rfl rfl (A0 rfl) (q7 (A0 rfl) nnl_list) rfl qz3 ?_
 intro v7_1
 refine R3 ?_
 exact I0 [0] v7_1 (trivial) rfl B0 (E4 rfl (A8 rfl V1))
theorem Am9 (v : Value) (l : List A9) (pre : A9 → Prop) (f : A9 → Bool) (hp : ∀ x ∈ l, pre x) (hl : l.length ≤ 4194304) : C9 Tryz.prog 91 [AV.is v, AV.fun1 Tryz.prog pre (fun a => AV.agg a.cs) (fun a => AV.bool (f a))] [.arr v 47 3 (l.map A9.cs)] (fun _ : Value => True) (fun v => [.arr v 47 3 ((l.filter fun x => !f x).map A9.cs)]) (fun v => AV.is v) := by
 refine C6 Tryz.func91 rfl Tryz.ntmps91 rfl ?_
 refine R2 ?_
 refine A4 rfl (D6 rfl G8) ?_
 refine R5 ?_
 refine A4 rfl (AK1 rfl Tryz.call116 rfl (AO0 _ _ _ BA0) (L6 _ _) (T0 (AV0 0 (A0 rfl) rfl) (T0 (evb (A0 rfl)) f8))) ?_
 refine R8 ?_
 refine A6 (A0 rfl) ?_ ?_
 ·intro h12
  have k12 := D1 h12; try simp only [A5] at k12
  have hall : l.filter (fun x => !f x) = l := by rcases AW5 f l 0 with h | ⟨n, x, h1, _⟩; exact h.2; (exfalso; have := k12; rw [show ((0 : Nat) : Int) = 0 from rfl] at h1; omega)
  refine R6 ?_
  exact I0 [0] v (trivial) rfl qz127 (E4 rfl (A8 rfl V1))
 intro h12
 have k12 := D5 h12; try simp only [A5] at k12
 obtain ⟨n, x0, hn, hx0, htk⟩ : ∃ (n : Nat) (x : A9), idxFrom f l 0 = (n : Int) ∧ l[n]? = some x ∧ l.take n = (l.take (n + 1)).filter (fun x => !f x) := by rcases AW5 f l 0 with h | ⟨n, x, h1, h2, h3⟩; exact absurd h.1 k12; exact ⟨n, x, by rw [show ((0 : Nat) : Int) = 0 from rfl] at h1; omega, h2, h3⟩
 rw [hn]
 have hnl : n < l.length := (List.getElem?_eq_some_iff.1 hx0).1
 refine R9 ?_
 refine Q4 [(0, _), (1, _), (4, _)] _ (fun (i : Nat) (j : Nat) (m : List A9) => i < j ∧ j ≤ l.length ∧ m.length = l.length ∧ m.take i = (l.take j).filter (fun x => !f x) ∧ m.drop j = l.drop j) (fun (i : Nat) (j : Nat) (m : List A9) => [.arr v 47 3 (m.map A9.cs)]) (fun (i : Nat) (j : Nat) (m : List A9) => [(5, AV.int i), (6, AV.int j)]) (fun (i : Nat) (j : Nat) (m : List A9) => l.length - j) (n) (n + 1) (l) ?_ (H7 B0 ⟨rfl, rfl, rfl, rfl, rfl, trivial⟩) ?_
 ·exact ⟨by omega, by omega, rfl, htk, rfl⟩
 intro i j m hinv
 refine R8 ?_
 refine A6 (A0 rfl) ?_ ?_
 ·intro h19
  have k19 := of_decide_eq_true h19; try simp only [A5] at k19
  have hm := hinv.2.2.1
  have hlt : j < l.length := by omega
  obtain ⟨x, hx⟩ := get_some hlt
  have hmx := Bn9 hinv.2.2.2.2 hx
  refine R7 ?_
  refine A4 rfl (E8 0 rfl C0 E5 (A0 rfl) rfl (A0 rfl) qz8 f6) ?_
  refine A4 rfl (W9 0 rfl (A0 rfl) rfl Tryz.isAgg47 E5 (by simp only [Int.toNat_natCast, List.getElem?_map, hmx, Option.map_some]; rfl) D3) ?_
  refine R1 ?_
  intro b7
  refine R6 ?_
  refine A4 rfl (AI7 rfl (A0 rfl) x (hp x (C4 hx)) (A0 rfl)) ?_
  refine R2 ?_
  refine A6 (A0 rfl) ?_ ?_
  ·intro h29
   refine R5 ?_
   refine A4 rfl (E8 1 rfl C0 E5 (A0 rfl) rfl (A0 rfl) qz8 f6) ?_
   refine S9 1 rfl rfl rfl (A0 rfl) (A0 rfl) (V2 _) rfl E5 rfl Bc4 ?_
   refine R11 ?_
   refine L7 i j m (i + 1) (j + 1) (m.set i x) ?_ ?_ (E0 1 qz193 ⟨rfl, rfl, rfl, rfl, rfl, trivial⟩)
   ·(have hd := del_keep (p := fun x => !f x) hinv.2.2.1 qz8 hx hinv.2.2.2.1 hinv.2.2.2.2 h29; exact ⟨by omega, by omega, hd.2.2, hd.1, hd.2.1⟩)
   omega
  intro h29
  refine R6 ?_
  refine L7 i j m (i) (j + 1) (m) ?_ ?_ (E0 1 qz193 ⟨rfl, rfl, rfl, rfl, rfl, trivial⟩)
  ·(have hd := del_skip (p := fun x => !f x) hx hinv.2.2.2.1 hinv.2.2.2.2 h29; exact ⟨by omega, by omega, hinv.2.2.1, hd.1, hd.2⟩)
  omega
 intro h19
 have k19 := of_decide_eq_false h19; try simp only [A5] at k19
 have hm := hinv.2.2.1
 have hge : l.length ≤ j := by omega
 refine R5 ?_
 refine A4 rfl (Bd1 0 rfl C0 E5 (A0 rfl) rfl (A0 rfl) qz8 f6) ?_
 refine CF3 0 rfl rfl rfl C0 Tryz.zeroValue47 rfl rfl D3 (A0 rfl) rfl Bc4 ?_
 refine R5 ?_
 refine Be7 0 rfl rfl rfl rfl C0 E5 (A0 rfl) rfl (A0 rfl) qz8 (by simp only [A5, G3, G9, List.length_replicate]; omega) ?_
 intro v41_1
 refine R3 ?_
 exact I0 [0] v41_1 (trivial) rfl qz127 (E4 rfl (A8 rfl V1))
theorem BH3 (v vv : Value) (l : List A9) (x : A9) (i : Nat) (hi : i ≤ l.length) (hl : l.length ≤ 4194304) : C9 Tryz.prog 119 [AV.is v, AV.int i, AV.is vv] [.arr v 47 3 (l.map A9.cs), .arr vv 47 3 [A9.cs x]] (fun _ : Value => True) (fun v => [.arr v 47 3 ((l.take i ++ x :: l.drop i).map A9.cs)]) (fun v => AV.is v) := by
 have hn : (l.map A9.cs).length = l.length := A5 _
 have h1 : ([A9.cs x] : List (List AV)).length = 1 := rfl
 have e28 : ((l.map A9.cs).length : Int) + (([A9.cs x] : List (List AV)).length : Int) = ((l.length + 1 : Nat) : Int) := by rw [hn, h1]; rfl
 have e49 : (i : Int) + (([A9.cs x] : List (List AV)).length : Int) = ((i + 1 : Nat) : Int) := by rw [h1]; rfl
 have e39 : ((l.length + 1 : Nat) : Int) - (i : Int) = ((l.length + 1 - i : Nat) : Int) := by omega
 refine C6 Tryz.func119 rfl Tryz.ntmps119 rfl ?_
 refine BB5 0 rfl ?_ ?_
 ·intro hv hes; subst hv
  have hl0 : l = [] := by cases l with | nil => rfl | cons y l => (simp at hes)
  subst hl0
  have hi0 : i = 0 := by simpa using hi
  subst hi0
  refine BB5 1 rfl (fun _ h => by cases h) ?_
  intro gv cv hvv _ _
  subst hvv
  refine R2 ?_
  refine A4 rfl (D6 rfl G8) ?_
  refine R5 ?_
  refine A4 rfl (Bd1 0 rfl C0 E5 (A0 rfl) rfl (A0 rfl) qz3 qz3) ?_
  refine R4 ?_
  refine A4 rfl (Be9 rfl C0 (A0 rfl)) ?_
  refine R8 ?_
  refine A6 (A0 rfl) ?_ ?_
  ·intro h16
   have k16 := D1 h16; try simp only [A5] at k16
   rw [h1] at k16; omega
  intro h16
  have k16 := D5 h16; try simp only [A5] at k16
  refine R14 ?_
  refine A6 (A0 rfl) ?_ ?_
  ·intro h22
   have k22 := D1 h22; try simp only [A5] at k22
   refine R4 ?_
   refine BF1 (by' := 40) 0 rfl rfl rfl rfl C0 Tryz.type47 rfl rfl rfl rfl rfl rfl (A0 rfl) (Ah6 1 rfl (A0 rfl)) S5 rfl (by simp only [A5, H4, M6]; omega) ?_
   intro v25
   refine R3 ?_
   exact I0 [0] v25 (trivial) rfl qz56 (E4 rfl (A8 rfl (by first | rfl | (rw [hn]))))
  intro h22
  have k22 := D5 h22; try simp only [A5] at k22
  exact absurd rfl k22
 intro g cap hv hlc hcm; subst hv
 refine BB5 1 rfl (fun _ h => by cases h) ?_
 intro gv cv hvv _ _
 subst hvv
 refine R2 ?_
 refine A4 rfl (D6 rfl G8) ?_
 refine R5 ?_
 refine A4 rfl (AZ1 rfl C0 E5 (A0 rfl) (A0 rfl) qz3 qz3) ?_
 refine R4 ?_
 refine A4 rfl (Be9 rfl C0 (A0 rfl)) ?_
 refine R8 ?_
 refine A6 (A0 rfl) ?_ ?_
 ·intro h16
  have k16 := D1 h16; try simp only [A5] at k16
  rw [h1] at k16; omega
 intro h16
 have k16 := D5 h16; try simp only [A5] at k16
 refine R4 ?_
 refine A4 rfl (Be9 rfl C0 (A0 rfl)) ?_
 refine R9 ?_
 refine A6 (A0 rfl) ?_ ?_
 ·intro h22
  have k22 := D1 h22; try simp only [A5] at k22
  refine R4 ?_
  refine BF1 (by' := 40) 0 rfl rfl rfl rfl C0 Tryz.type47 rfl rfl rfl rfl rfl rfl (A0 rfl) (Ah6 1 rfl (A0 rfl)) S5 rfl (by simp only [A5, H4, M6]; omega) ?_
  intro v25
  refine R3 ?_
  exact I0 [0] v25 (trivial) rfl qz56 (E4 rfl (A8 rfl (by first | rfl | (rw [hn]))))
 intro h22
 have k22 := D5 h22; try simp only [A5] at k22
 refine R7 ?_
 rw [e28]
 refine R1 ?_
 refine A4 rfl (w_vcap rfl C0 (A0 rfl)) ?_
 refine R2 ?_
 refine A6 (A0 rfl) ?_ ?_
 ·intro h31
  have k31 := of_decide_eq_true h31; try simp only [A5] at k31
  refine R4 ?_
  refine A4 rfl (w_vhi rfl C0 E5 (A0 rfl) (A0 rfl) qz8 (by rw [hn] at hlc; omega)) ?_
  refine R3 ?_
  rw [e28]
  refine R2 ?_
  rw [e39, Int.toNat_natCast]
  refine Bx4 (by' := 40) (j := i) (m := l.length + 1 - i) 0 rfl rfl rfl rfl C0 c5 Tryz.type47 rfl rfl rfl rfl rfl rfl (A0 rfl) (A0 rfl) rfl (by rw [hn]; exact hi) qz8 qz8 qz8 qz8 ?_
  intro g2 cap2 hcap2
  refine R6 ?_
  refine A4 rfl (AZ1 rfl C0 E5 (A0 rfl) (A0 rfl) qz3 qz3) ?_
  refine R1 ?_
  rw [Int.toNat_natCast]
  refine BO2 (k := i) 0 rfl rfl rfl rfl C0 Tryz.type47 rfl (A0 rfl) (Ah6 2 rfl (A0 rfl)) rfl (by rw [h1]; omega) (by rw [h1]; omega) hcap2 S5 ?_
  refine R2 ?_
  refine L8 8 F2 F2 rfl ?_
  refine R4 ?_
  rw [e49]
  refine C3 rfl rfl (AZ1 rfl C0 E5 (A0 rfl) (A0 rfl) qz3 qz3) ?_
  refine R2 ?_
  refine C3 rfl rfl (AZ1 rfl C0 E5 (A0 rfl) (A0 rfl) qz3 qz3) ?_
  refine R1 ?_
  simp only [Int.toNat_natCast]
  refine BO2 (k := i + 1) 0 rfl rfl rfl rfl C0 Tryz.type47 rfl (A0 rfl) (Bu0 1 rfl (A0 rfl)) rfl (by rw [List.length_drop, hn]; omega) (by rw [List.length_drop, hn]; omega) hcap2 (by intro h; have := congrArg List.length h; rw [List.length_drop, hn] at this; simp at this; omega) ?_
  refine R7 ?_
  exact I0 [0] (slv g2 (i + (l.length + 1 - i)) cap2) (trivial) rfl qz56 (E4 rfl (A8 rfl (by first | rfl | (rw [hn]))))
 intro h31
 have k31 := of_decide_eq_false h31; try simp only [A5] at k31
 refine R7 ?_
 rw [e28]
 refine A4 rfl (w_vhi rfl C0 E5 (A0 rfl) (A0 rfl) qz3 qz3) ?_
 rw [Int.toNat_natCast]
 refine R10 ?_
 rw [e49]
 refine A4 rfl (AZ1 rfl C0 E5 (A0 rfl) (A0 rfl) qz3 qz3) ?_
 rw [Int.toNat_natCast]
 refine A4 rfl (Bn8 (tb := 4) 1 0 rfl Tryz.func136 F2 F2 F2 F2 C0 E5 (A0 rfl) (A0 rfl) rfl rfl rfl qz8 rfl) ?_
 refine R2 ?_
 refine A6 (A0 rfl) ?_ ?_
 ·intro h68
  refine R1 ?_
  refine L8 8 F2 F2 rfl ?_
  refine R4 ?_
  rw [e49]
  refine C3 rfl rfl (AZ1 rfl C0 E5 (A0 rfl) (A0 rfl) qz3 qz3) ?_
  refine R2 ?_
  refine C3 rfl rfl (AZ1 rfl C0 E5 (A0 rfl) (A0 rfl) qz3 qz3) ?_
  refine R1 ?_
  simp only [Int.toNat_natCast]
  refine sq_shift (k := i) (len := (l.map A9.cs).length) 0 rfl rfl rfl rfl C0 Tryz.type47 rfl (by rw [hn]; exact A0 rfl) (by rw [hn]; exact A0 rfl) rfl qz8 qz8 ?_
  intro j77
  refine R5 ?_
  refine A4 rfl (AZ1 rfl C0 E5 (A0 rfl) (A0 rfl) qz3 qz3) ?_
  refine R1 ?_
  rw [Int.toNat_natCast]
  refine BO2 (k := i) 0 rfl rfl rfl rfl C0 Tryz.type47 rfl (A0 rfl) (Ah6 1 rfl (A0 rfl)) rfl (by rw [h1, hn]; omega) (by rw [h1]; omega) qz8 S5 ?_
  refine R7 ?_
  exact I0 [0] (slv g ((l.map A9.cs).length + 1) cap) (trivial) rfl qz56 (E4 rfl (A8 rfl (by first | rfl | (rw [hn]))))
 intro h68
 cases h68
theorem Al8 (s : Str) (g : Bool) (hs : s.length ≤ 4611686018427387904) : B9 Tryz.prog 94 [AV.str s, AV.bool g] (AV.bool (isStored s g)) := by
  refine B7 Tryz.func94 rfl Tryz.ntmps94 rfl ?_
  refine R7 ?_
  refine A4 rfl (B2 rfl Tryz.call121 rfl (Bh6 _ qz8) (A1 (A0 rfl) A7)) ?_
  refine R4 ?_
  refine c7 rfl rfl (U6 rfl rfl rfl) (fun hc => Be0 rfl (B1 rfl hc) (L5 (l := []) rfl)) ?_
  refine R6 ?_
  exact D4 rfl (A8 rfl V1)
theorem AU1 (s : Str) (hs : s.length ≤ 4611686018427387904) : B9 Tryz.prog 100 [AV.str s] (AV.bool (l3Val s)) := by
  refine B7 Tryz.func100 rfl Tryz.ntmps100 rfl ?_
  refine R11 ?_
  refine L4 rfl (fun hc => B2 rfl Tryz.call122 rfl (Aq3 _ _ qz8 D3) (A1 (B1 rfl hc) (A1 (L5 (l := [46, 45, 44, 95]) rfl) A7))) ?_
  refine R4 ?_
  exact D4 rfl (A8 rfl V1)
theorem Aq6 (k s : Str) (g : Bool) (hk : k.length ≤ 4611686018427387904) (hs : s.length ≤ 4611686018427387904) : B9 Tryz.prog 101 [AV.str k, AV.str s, AV.bool g] (AV.bool (l3Write k s g)) := by
  refine B7 Tryz.func101 rfl Tryz.ntmps101 rfl ?_
  refine R7 ?_
  refine A4 rfl (B2 rfl Tryz.call99 rfl (AA0 _ qz8) (A1 (A0 rfl) A7)) ?_
  refine R2 ?_
  refine L4 rfl (fun hc => B2 rfl Tryz.call100 rfl (AU1 _ qz8) (A1 (B1 rfl hc) A7)) ?_
  refine R6 ?_
  refine c7 rfl rfl (Ag1 rfl rfl rfl) (fun hc => AG9 rfl (B1 rfl hc) (L5 (l := []) rfl)) ?_
  refine R5 ?_
  exact D4 rfl (A8 rfl V1)
theorem Al9 (t : Int) : B9 Tryz.prog 110 [AV.int t] (AV.bool false) := by
  refine B7 Tryz.func110 rfl Tryz.ntmps110 rfl ?_
  refine R12 ?_
  exact D4 rfl (A8 rfl (by exact congrArg AV.bool S5))
theorem Am0 (t : Str) : B9 Tryz.prog 111 [AV.str t] (AV.bool false) := by
  refine B7 Tryz.func111 rfl Tryz.ntmps111 rfl ?_
  refine R12 ?_
  exact D4 rfl (A8 rfl (by exact congrArg AV.bool S5))
theorem Ay0 (x y : Int) : B9 Tryz.prog 77 [AV.int x, AV.int y] (AV.int (cmpInt x y)) := by
 refine B7 Tryz.func77 rfl Tryz.ntmps77 rfl ?_
 refine R7 ?_
 refine A4 rfl (B2 rfl Tryz.call110 rfl (Al9 _) (A1 (A0 rfl) A7)) ?_
 refine R5 ?_
 refine A4 rfl (B2 rfl Tryz.call110 rfl (Al9 _) (A1 (A0 rfl) A7)) ?_
 refine R7 ?_
 refine A6 (A0 rfl) ?_ ?_
 ·intro h11
  cases h11
 intro h11
 refine R6 ?_
 refine A6 (A0 rfl) ?_ ?_
 ·intro h13
  cases h13
 intro h13
 refine R8 ?_
 refine A6 (A0 rfl) ?_ ?_
 ·intro h16
  have k16 := of_decide_eq_true h16; try simp only [A5] at k16
  refine R5 ?_
  exact D4 rfl (A8 rfl qz145)
 intro h16
 have k16 := of_decide_eq_false h16; try simp only [A5] at k16
 refine R8 ?_
 refine A6 (A0 rfl) ?_ ?_
 ·intro h19
  have k19 := of_decide_eq_true h19; try simp only [A5] at k19
  refine R5 ?_
  exact D4 rfl (A8 rfl qz145)
 intro h19
 have k19 := of_decide_eq_false h19; try simp only [A5] at k19
 refine R6 ?_
 exact D4 rfl (A8 rfl qz145)
theorem Bo7 (x y : Str) : B9 Tryz.prog 80 [AV.str x, AV.str y] (AV.int (cmpStr x y)) := by
 refine B7 Tryz.func80 rfl Tryz.ntmps80 rfl ?_
 refine R7 ?_
 refine A4 rfl (B2 rfl Tryz.call111 rfl (Am0 _) (A1 (A0 rfl) A7)) ?_
 refine R5 ?_
 refine A4 rfl (B2 rfl Tryz.call111 rfl (Am0 _) (A1 (A0 rfl) A7)) ?_
 refine R7 ?_
 refine A6 (A0 rfl) ?_ ?_
 ·intro h11
  cases h11
 intro h11
 refine R6 ?_
 refine A6 (A0 rfl) ?_ ?_
 ·intro h13
  cases h13
 intro h13
 refine R6 ?_
 refine A4 rfl (w_slss rfl (A0 rfl) (A0 rfl)) ?_
 refine R1 ?_
 refine A6 (A0 rfl) ?_ ?_
 ·intro h16
  refine R5 ?_
  exact D4 rfl (A8 rfl qz136)
 intro h16
 refine R6 ?_
 refine A4 rfl (BE3 rfl (A0 rfl) (A0 rfl)) ?_
 refine R1 ?_
 refine A6 (A0 rfl) ?_ ?_
 ·intro h19
  refine R5 ?_
  exact D4 rfl (A8 rfl qz136)
 intro h19
 refine R6 ?_
 exact D4 rfl (A8 rfl qz136)
theorem Bz8 (l : List Int) : B9 Tryz.prog 76 [ints l] (AV.int (orInt l)) := by
 refine B7 Tryz.func76 rfl Tryz.ntmps76 rfl ?_
 refine S1 (t := 0) rfl fun hl => ?_
 try simp only [A5] at hl
 refine R16 ?_
 refine E2 [(3, _), (6, _), (7, _)] _ (fun (i : Nat) => i ≤ l.length ∧ orInt l = orInt (l.drop i)) (fun (i : Nat) => []) (fun (i : Nat) => [(8, AV.int i)]) (fun (i : Nat) => l.length - i) (0) ?_ (E7 ⟨rfl, rfl, rfl, rfl, trivial⟩) ?_
 ·exact ⟨Nat.zero_le _, rfl⟩
 intro i hinv
 refine R5 ?_
 refine A6 (A0 rfl) ?_ ?_
 ·intro h9
  have k9 := of_decide_eq_true h9; try simp only [A5] at k9
  have hlt : i < l.length := by omega
  obtain ⟨x, hx⟩ := get_some hlt
  refine R5 ?_
  refine A4 rfl (t3 rfl B4 B6 (A0 rfl) (A0 rfl) qz8 Bc8) ?_
  refine R9 ?_
  refine A6 (A0 rfl) ?_ ?_
  ·intro h14
   have k14 := w8 h14; try simp only [A5] at k14
   refine R6 ?_
   exact D4 rfl (A8 rfl qz166)
  intro h14
  have k14 := c3 h14; try simp only [A5] at k14
  refine R5 ?_
  refine E9 i (i + 1) ?_ ?_ (E7 ⟨rfl, rfl, rfl, rfl, trivial⟩)
  ·exact ⟨by omega, by rw [hinv.2, drop_some hx, orInt]; simp [k14]⟩
  omega
 intro h9
 have k9 := of_decide_eq_false h9; try simp only [A5] at k9
 have hge : l.length ≤ i := by omega
 refine R7 ?_
 exact D4 rfl (A8 rfl qz166)
theorem Bz9 {l : List A9} (h : sizeL A9.size l ≤ 4194304) : ∀ k ∈ O8 l, k.length ≤ 4611686018427387904 := fun k hk => by
  obtain ⟨w, hw, rfl⟩ := List.mem_map.1 hk
  have := AZ5 (f := A9.size) hw
  have h2 : w.size = w.Key.length + w.Val.length := rfl
  omega
theorem BP1 (l : List Str) (hs : ∀ k ∈ l, k.length ≤ 4611686018427387904) : B9 Tryz.prog 96 [strs l] (AV.bool (areRising l)) := by
 refine B7 Tryz.func96 rfl Tryz.ntmps96 rfl ?_
 refine S1 (t := 0) rfl fun hl => ?_
 try simp only [A5] at hl
 refine R12 ?_
 refine E2 [(0, _), (5, _), (6, _)] _ (fun (i : Nat) => i ≤ l.length ∧ areRising l = ((l.drop i).all goodKey && adj Op.bytesLess (l.drop (i - 1)))) (fun (i : Nat) => []) (fun (i : Nat) => [(7, AV.int i)]) (fun (i : Nat) => l.length - i) (0) ?_ (E7 ⟨rfl, rfl, rfl, rfl, trivial⟩) ?_
 ·exact ⟨Nat.zero_le _, rfl⟩
 intro i hinv
 refine R5 ?_
 refine A6 (A0 rfl) ?_ ?_
 ·intro h8
  have k8 := of_decide_eq_true h8; try simp only [A5] at k8
  have hlt : i < l.length := by omega
  obtain ⟨x, hx⟩ := get_some hlt
  obtain ⟨y, hy⟩ := get_some (show i - 1 < l.length by omega)
  have hsx := hs x (C4 hx)
  refine R6 ?_
  refine A4 rfl (C7 rfl F9 K3 (A0 rfl) (A0 rfl) hx qz3) ?_
  refine R7 ?_
  refine A4 rfl (B2 rfl Tryz.call93 rfl (Aq4 _ qz8) (A1 (A0 rfl) A7)) ?_
  refine R9 ?_
  refine c7 rfl rfl (U6 rfl rfl rfl) (fun hc => C7 rfl F9 K3 (B1 rfl hc) (B1 rfl hc) hy qz5) ?_
  refine R1 ?_
  refine c7 rfl rfl (U6 rfl rfl rfl) (fun hc => w_sleq rfl (B1 rfl hc) (B1 rfl hc)) ?_
  refine R3 ?_
  refine A6 (A0 rfl) ?_ ?_
  ·intro h27
   have hfin : areRising l = false := by rw [hinv.2]; cases hg : goodKey x with | false => (rw [Ai5 hx hg]; simp) | true => (have hb : 0 < i ∧ Op.bytesLess y x = false := (by have := T4 y x; simp_all; try grind); rw [AJ1 hx hy hb.1 hb.2]; simp)
   refine R5 ?_
   exact D4 rfl (A8 rfl qz161)
  intro h27
  have hg : goodKey x = true ∧ (0 < i → Op.bytesLess y x = true) := by have := T4 y x; simp_all
  refine R5 ?_
  refine E9 i (i + 1) ?_ ?_ (E7 ⟨rfl, rfl, rfl, rfl, trivial⟩)
  ·exact ⟨by omega, by rw [hinv.2, Ai4 hx hg.1, AJ0 hx hy hg.2]⟩
  omega
 intro h8
 have k8 := of_decide_eq_false h8; try simp only [A5] at k8
 have hge : l.length ≤ i := by omega
 refine R6 ?_
 exact D4 rfl (A8 rfl qz161)
theorem BP2 (l : List A9) (hs : sizeL A9.size l ≤ 4194304) : B9 Tryz.prog 97 [AV.list 3 (l.map A9.cs)] (strs (O8 l)) := by
 have hl : l.length ≤ 4194304 := Nat.le_trans L3 hs
 refine B7 Tryz.func97 rfl Tryz.ntmps97 rfl ?_
 refine R2 ?_
 refine A4 rfl (D6 rfl (O6 (sz := 1))) ?_
 refine R3 ?_
 refine N3 rfl rfl rfl rfl F9 K3 ?_
 intro v6
 refine R10 ?_
 refine J0 [(2, _), (7, _), (8, _)] _ (fun (i : Nat) (v : Value) => i ≤ l.length) (fun (i : Nat) (v : Value) => [.arr v 9 1 ((l.take i).map fun w => [AV.str w.Key])]) (fun (i : Nat) (v : Value) => [(3, AV.is v), (9, AV.int i)]) (fun (i : Nat) (v : Value) => l.length - i) (0) (v6) ?_ (H7 B0 ⟨rfl, rfl, rfl, rfl, rfl, trivial⟩) ?_
 ·exact Nat.zero_le _
 intro i v hinv
 refine R5 ?_
 refine A6 (A0 rfl) ?_ ?_
 ·intro h10
  have k10 := of_decide_eq_true h10; try simp only [A5] at k10
  have hlt : i < l.length := by omega
  obtain ⟨x, hx⟩ := get_some hlt
  refine R5 ?_
  refine A4 rfl (C7 rfl C0 E5 (A0 rfl) (A0 rfl) hx qz3) ?_
  refine R2 ?_
  intro b5
  refine R7 ?_
  refine F6 (by' := 16) 1 rfl rfl rfl rfl F9 Tryz.type9 rfl rfl rfl rfl rfl rfl (A0 rfl) (A0 rfl) rfl qz3 ?_
  intro v17_1
  refine R6 ?_
  refine G4 i v (i + 1) (v17_1) ?_ ?_ (E0 1 (by exact congrArg (fun z => [Own.arr v17_1 9 1 z]) (AI0 (f := fun w : A9 => [AV.str w.Key]) hx)) ⟨rfl, rfl, rfl, rfl, rfl, trivial⟩)
  ·omega
  omega
 intro h10
 have k10 := of_decide_eq_false h10; try simp only [A5] at k10
 have hge : l.length ≤ i := by omega
 rw [List.take_of_length_le hge]
 refine R7 ?_
 refine AD1 0 2 rfl rfl ?_
 exact D4 rfl (A8 rfl (by exact congrArg (AV.list 1) (by unfold O8; rw [List.map_map]; rfl)))
theorem BC9 (w : A9) (h : w.size ≤ 4194304) : B9 Tryz.prog 98 [AV.agg w.cs] (AV.bool (!isStored w.Val w.Gone)) := by
  unfold A9.size at h
  refine B7 Tryz.func98 rfl Tryz.ntmps98 rfl ?_
  refine R3 ?_
  intro b1
  refine R8 ?_
  refine A4 rfl (B2 rfl Tryz.call94 rfl (Al8 _ _ qz8) (A1 (A0 rfl) (A1 (A0 rfl) A7))) ?_
  refine R4 ?_
  exact D4 rfl (A8 rfl V1)
theorem BH4 (l : List A9) (hs : sizeL A9.size l ≤ 4194304) : B9 Tryz.prog 66 [AV.list 3 (l.map A9.cs)] (AV.bool (goodWrites l)) := by
  have hm : ∀ x ∈ l, x.size ≤ 4194304 := fun x hx => Nat.le_trans (AZ5 hx) hs
  refine B7 Tryz.func66 rfl Tryz.ntmps66 rfl ?_
  refine R11 ?_
  refine L4 rfl (fun hc => B2 rfl Tryz.call97 rfl (BP2 _ n3) (A1 (B1 rfl hc) A7)) ?_
  refine L4 rfl (fun hc => B2 rfl Tryz.call96 rfl (BP1 _ (by first | assumption | exact Bz9 n3)) (A1 (B1 rfl hc) A7)) ?_
  refine R3 ?_
  refine L4 rfl (fun hc => B2 rfl Tryz.call83 rfl (Ac6 _ _ _ BA0) (A1 (B1 rfl hc) (A1 (BN9 Tryz.call98 (fun w h => BC9 w h)) A7))) ?_
  refine R5 ?_
  exact D4 rfl (A8 rfl (by exact congrArg AV.bool (by unfold goodWrites; simp only [A5])))
theorem Am1 (l : List A9) (hs : sizeL A9.size l ≤ 1048576) : B9 Tryz.prog 69 [AV.list 3 (l.map A9.cs)] (AV.bool (l3Writes l)) := by
 refine B7 Tryz.func69 rfl Tryz.ntmps69 rfl ?_
 refine S1 (t := 0) rfl fun hl => ?_
 try simp only [A5] at hl
 refine R12 ?_
 refine E2 [(0, _), (5, _), (6, _)] _ (fun (i : Nat) => i ≤ l.length ∧ (l.all wGood && adj wLess l) = ((l.drop i).all wGood && adj wLess (l.drop (i - 1)))) (fun (i : Nat) => []) (fun (i : Nat) => [(7, AV.int i)]) (fun (i : Nat) => l.length - i) (0) ?_ (E7 ⟨rfl, rfl, rfl, rfl, trivial⟩) ?_
 ·exact ⟨Nat.zero_le _, rfl⟩
 intro i hinv
 refine R5 ?_
 refine A6 (A0 rfl) ?_ ?_
 ·intro h8
  have k8 := of_decide_eq_true h8; try simp only [A5] at k8
  have hlt : i < l.length := by omega
  obtain ⟨x, hx⟩ := get_some hlt
  obtain ⟨y, hy⟩ := get_some (show i - 1 < l.length by omega)
  have hsx : x.size ≤ 1048576 := Nat.le_trans (W4 hx) hs
  unfold A9.size at hsx
  refine R6 ?_
  refine A4 rfl (C7 rfl C0 E5 (A0 rfl) (A0 rfl) hx qz3) ?_
  refine R2 ?_
  intro b4
  refine R11 ?_
  refine C3 rfl rfl (B2 rfl Tryz.call101 rfl (Aq6 _ _ _ qz8 qz8) (A1 (A0 rfl) (A1 (A0 rfl) (A1 (A0 rfl) A7)))) ?_
  refine R8 ?_
  refine L2 rfl (U6 rfl rfl rfl) (fun hc => C7 rfl C0 E5 (B1 rfl hc) (B1 rfl hc) hy qz5) ?_
  refine R4 ?_
  refine L2 rfl (U6 rfl rfl rfl) (fun hc => An7 rfl (B1 rfl hc) (B1 rfl hc)) ?_
  refine R3 ?_
  refine A6 (A0 rfl) ?_ ?_
  ·intro h34
   have hfin : l3Writes l = false := by unfold l3Writes; rw [hinv.2]; cases hg : wGood x with | false => (rw [Ai5 hx hg]; simp) | true => (have hb : 0 < i ∧ wLess y x = false := (by unfold wGood at hg; unfold wLess; simp_all; try grind); rw [AJ1 hx hy hb.1 hb.2]; simp)
   refine R5 ?_
   exact D4 rfl (A8 rfl qz142)
  intro h34
  have hg : wGood x = true ∧ (0 < i → wLess y x = true) := by unfold wGood wLess; simp_all
  refine R5 ?_
  refine E9 i (i + 1) ?_ ?_ (O4 1 ⟨rfl, rfl, rfl, rfl, trivial⟩)
  ·exact ⟨by omega, by rw [hinv.2, Ai4 hx hg.1, AJ0 hx hy hg.2]⟩
  omega
 intro h8
 have k8 := of_decide_eq_false h8; try simp only [A5] at k8
 have hge : l.length ≤ i := by omega
 refine R9 ?_
 exact D4 rfl (A8 rfl qz142)
theorem BH5 (w : A9) (k : Str) : B9 Tryz.prog 79 [AV.agg w.cs, AV.str k] (AV.int (As9 k w)) := by
  refine B7 Tryz.func79 rfl Tryz.ntmps79 rfl ?_
  refine R3 ?_
  intro b2
  refine R7 ?_
  refine A4 rfl (B2 rfl Tryz.call80 rfl (Bo7 _ _) (A1 (A0 rfl) (A1 (A0 rfl) A7))) ?_
  refine R3 ?_
  exact D4 rfl (A8 rfl V1)
theorem AO9 (l : List A9) (k : Str) (hs : l.length ≤ 4611686018427387903) : B9 Tryz.prog 47 [AV.list 3 (l.map A9.cs), AV.str k] (AV.tup [AV.int (wPos l k), AV.bool (wHas l k)]) := by
  refine B7 Tryz.func47 rfl Tryz.ntmps47 rfl ?_
  refine R9 ?_
  refine A4 rfl (B2 rfl Tryz.call78 rfl (Ac7 _ _ _ BA0 _ qz8) (A1 (A0 rfl) (A1 (A0 rfl) (A1 (ev_fun2 Tryz.call79 (fun w k (_ : True) => BH5 w k)) A7)))) ?_
  refine R6 ?_
  exact U2 rfl D3 (B8 (A8 rfl V1) (B8 (A8 rfl V1) G6))
theorem CA0 (l : List A9) (k : Str) (hs : l.length ≤ 4611686018427387903) : B9 Tryz.prog 88 [AV.list 3 (l.map A9.cs), AV.str k] (AV.agg (gotOf l k).cs) := by
 refine B7 Tryz.func88 rfl Tryz.ntmps88 rfl ?_
 refine R3 ?_
 intro b4
 refine R5 ?_
 refine A4 rfl (B2 rfl Tryz.call47 rfl (AO9 _ _ qz8) (A1 (A0 rfl) (A1 (A0 rfl) A7))) ?_
 refine R12 ?_
 refine A6 (A0 rfl) ?_ ?_
 ·intro h14
  have hn : wHas l k = false := by simpa using h14
  have he : gotOf l k = ⟨k, [], false⟩ := by unfold gotOf; rw [hn]; rfl
  rw [he]
  refine R7 ?_
  exact D4 rfl (H1 (ys := _) 0 rfl rfl AC0 N5 rfl)
 intro h14
 have hn : wHas l k = true := by simpa using h14
 obtain ⟨w, hw⟩ : ∃ w, l[wPos l k]? = some w := by unfold wHas BR3 at hn; cases hp : l[wPos l k]? with | none => (rw [hp] at hn; cases hn) | some w => exact ⟨w, rfl⟩
 have he : gotOf l k = ⟨k, w.Val, true⟩ := by unfold gotOf; rw [hn, if_pos rfl, hw]
 rw [he]
 refine R6 ?_
 refine A4 rfl (C7 rfl C0 E5 (A0 rfl) (A0 rfl) hw rfl) ?_
 refine R6 ?_
 exact D4 rfl (H1 (ys := _) 0 rfl rfl AC0 N5 rfl)
end Go.Proofs.YtcfkbhnpfjjmjaaGreat
namespace Go.Proofs.YtcfkbhnpfjjmjaaGreat
open Go Go.AV Go.M
attribute [local irreducible] OpW OpA OpS AWP B9 J2 C9 OpE RetOk H0 I6 Le Ev F1
def L1.ow (c : L1) (x : Value × Value) : List Own := [.arr x.1 9 1 (c.Reads.map (fun x => [AV.str x])), .arr x.2 47 3 (c.Writes.map A9.cs)]
theorem L1.lc (c : L1) (x : Value × Value) : X9 (L1.ow c x) (L1.ocs c x) c.cs := (D0 H2 (D0 H2 (D0 H2 (D0 H2 (D0 (J5 (C4 (i := 0) rfl) F4) (D0 (J5 (C4 (i := 1) rfl) F4) (D0 H2 U9)))))))
def j3.ow (c : j3) (x : Value × Value) : List Own := [.arr x.1 9 1 (c.Cuts.map (fun x => [AV.str x])), .arr x.2 3 1 (c.Groups.map (fun x => [AV.int x]))]
theorem j3.lc (c : j3) (x : Value × Value) : X9 (j3.ow c x) (j3.ocs c x) c.cs := (D0 H2 (D0 (J5 (C4 (i := 0) rfl) F4) (D0 (J5 (C4 (i := 1) rfl) F4) U9)))
def TMove.ow (c : TMove) (x : Value × Value) : List Own := [.arr x.1 47 3 (c.From.map A9.cs), .arr x.2 47 3 (c.To.map A9.cs)]
theorem TMove.lc (c : TMove) (x : Value × Value) : X9 (TMove.ow c x) (TMove.ocs c x) c.cs := (D0 H2 (D0 H2 (D0 H2 (D0 (J5 (C4 (i := 0) rfl) F4) (D0 (J5 (C4 (i := 1) rfl) F4) (D0 H2 (D0 H2 U9)))))))
end Go.Proofs.YtcfkbhnpfjjmjaaGreat
namespace Go.Proofs.YtcfkbhnpfjjmjaaGreat
open Go Go.AV Go.M
attribute [local irreducible] OpW OpA OpS AWP B9 J2 C9 OpE RetOk H0 I6 Le Ev F1 J8
theorem BZ6 (w : A9) : B9 Tryz.prog 92 [AV.agg w.cs] (AV.bool w.Gone) := by
  refine B7 Tryz.func92 rfl Tryz.ntmps92 rfl ?_
  refine R3 ?_
  intro b1
  refine R9 ?_
  exact D4 rfl (A8 rfl V1)
theorem Bh7 (v : Value) (l : List A9) (w : A9) (hl : l.length ≤ 4194303) : C9 Tryz.prog 90 [AV.is v, AV.agg w.cs] [.arr v 47 3 (l.map A9.cs)] (fun _ : Value => True) (fun v => [.arr v 47 3 ((putW l w).map A9.cs)]) (fun v => AV.is v) := by
 have hle := Bu4 l w.Key
 refine C6 Tryz.func90 rfl Tryz.ntmps90 rfl ?_
 refine R3 ?_
 intro b3
 refine A4 rfl (D6 rfl G8) ?_
 refine R6 ?_
 refine A4 rfl (AK1 rfl Tryz.call47 rfl (AO9 l w.Key qz8) (BB1 (D2 (L6 _ _) (D2 (X3 _) M2))) (T0 (AV0 1 (A0 rfl) rfl) (T0 (evb (A0 rfl)) f8))) ?_
 refine R11 ?_
 refine A6 (A0 rfl) ?_ ?_
 ·intro h14
  obtain ⟨y, hy, _⟩ := AO5.1 h14
  have hlt := (List.getElem?_eq_some_iff.1 hy).1
  have he : putW l w = l.set (wPos l w.Key) w := by unfold putW; rw [if_pos h14]
  rw [he]
  refine R5 ?_
  refine A4 rfl (E8 1 rfl C0 E5 (A0 rfl) rfl (A0 rfl) qz8 Bc4) ?_
  refine S9 1 rfl rfl rfl (A0 rfl) (A0 rfl) (V2 _) rfl E5 rfl Bc4 ?_
  refine R7 ?_
  exact I0 [1] v (trivial) rfl (by first | rfl | exact congrArg (fun z => [Own.arr _ 47 3 z]) List.map_set) (E4 rfl (A8 rfl V1))
 intro h14
 have he : putW l w = l.take (wPos l w.Key) ++ w :: l.drop (wPos l w.Key) := by unfold putW; rw [if_neg (by rw [h14]; decide)]
 rw [he]
 refine R6 ?_
 refine Bx3 rfl rfl rfl rfl C0 E5 Tryz.zeroValue47 rfl rfl rfl rfl (D7 (A0 rfl) (V2 _) T7) rfl rfl ?_
 intro v23
 refine F0 [2, 0] rfl rfl rfl rfl Tryz.call119 rfl (BH3 _ _ l w (wPos l w.Key) hle qz8) (A1 (A0 rfl) (A1 (A0 rfl) (A1 (A0 rfl) A7))) rfl ?_
 intro x24 ok24
 refine R3 ?_
 exact I0 [0] x24 (trivial) rfl (by first | rfl | exact congrArg (fun z => [Own.arr _ 47 3 z]) List.map_set) (E4 rfl (A8 rfl V1))
theorem Bo8 (l ws : List A9) (hl : l.length ≤ 2097151) (hw : ws.length ≤ 2097152) : C9 Tryz.prog 62 [AV.list 3 (l.map A9.cs), AV.list 3 (ws.map A9.cs)] [] (fun _ : Value => True) (fun v => [.arr v 47 3 ((putRows l ws).1.map A9.cs)]) (fun v => AV.tup [AV.is v, AV.bool (putRows l ws).2]) := by
 refine C6 Tryz.func62 rfl Tryz.ntmps62 rfl ?_
 refine R2 ?_
 refine A4 rfl (D6 rfl G8) ?_
 refine R5 ?_
 refine F0 [] rfl rfl rfl rfl Tryz.call89 rfl (BH2 l qz8) (A1 (A0 rfl) A7) rfl ?_
 intro x10 ok10
 refine R10 ?_
 refine J0 [(4, _), (5, _), (11, _), (12, _)] _ (fun (i : Nat) (v : Value) => i ≤ ws.length) (fun (i : Nat) (v : Value) => [.arr v 47 3 ((putL l (ws.take i)).map A9.cs)]) (fun (i : Nat) (v : Value) => [(6, AV.is v), (13, AV.int i)]) (fun (i : Nat) (v : Value) => ws.length - i) (0) (x10) ?_ (H7 B0 ⟨rfl, rfl, rfl, rfl, rfl, rfl, trivial⟩) ?_
 ·exact Nat.zero_le _
 intro i v hinv
 refine R5 ?_
 refine A6 (A0 rfl) ?_ ?_
 ·intro h14
  have k14 := of_decide_eq_true h14; try simp only [A5] at k14
  have hlt : i < ws.length := by omega
  obtain ⟨x, hx⟩ := get_some hlt
  have hpl := BC0 (ws.take i) l
  rw [G9] at hpl
  refine R5 ?_
  refine A4 rfl (C7 rfl C0 E5 (A0 rfl) (A0 rfl) hx qz3) ?_
  refine R2 ?_
  intro b8
  refine R5 ?_
  refine F0 [1] rfl rfl rfl rfl Tryz.call90 rfl (Bh7 _ _ x qz8) (A1 (A0 rfl) (A1 (A0 rfl) A7)) rfl ?_
  intro x19 ok19
  refine R6 ?_
  refine G4 i v (i + 1) (x19) ?_ ?_ (Le.trans (C1 [1] rfl) (E0 1 (by rw [show putL l (ws.take (i + 1)) = putW (putL l (ws.take i)) x from by rw [List.take_add_one, hx]; exact CG0 _ _ _]; rfl) ⟨rfl, rfl, rfl, rfl, rfl, rfl, trivial⟩))
  ·omega
  omega
 intro h14
 have k14 := of_decide_eq_false h14; try simp only [A5] at k14
 have hge : ws.length ≤ i := by omega
 rw [List.take_of_length_le hge]
 have hpl := BC0 ws l
 refine R4 ?_
 refine F0 [0] rfl rfl rfl rfl Tryz.call91 rfl (Am9 _ _ _ _ (fun _ _ => trivial) qz8) (A1 (A0 rfl) (A1 (BN9 Tryz.call92 (fun w (_ : True) => BZ6 w)) A7)) rfl ?_
 intro x22 ok22
 refine R9 ?_
 refine A6 (A0 rfl) ?_ ?_
 ·intro h25
  have k25 := of_decide_eq_true h25; try simp only [A5] at k25
  have he : putRows l ws = ([], false) := by unfold putRows o5; rw [if_pos (by simpa using k25)]
  rw [he]
  refine R2 ?_
  refine A4 rfl (D6 rfl G8) ?_
  refine R3 ?_
  refine a9 47 3 ?_
  exact I0 [0] (Value.slice none 0 0) (trivial) rfl B0 (U3 rfl D3 (B8 (A8 rfl B0) (B8 (A8 rfl B0) G6)))
 intro h25
 have k25 := of_decide_eq_false h25; try simp only [A5] at k25
 have he : putRows l ws = (o5 (putL l ws), true) := by unfold putRows o5; rw [if_neg (by simpa using k25)]
 rw [he]
 refine R8 ?_
 exact I0 [0] x22 (trivial) rfl B0 (U3 rfl D3 (B8 (A8 rfl B0) (B8 (A8 rfl B0) G6)))
theorem BH6 (l : List A9) (w : A9) (hl : l.length ≤ 4194303) : C9 Tryz.prog 132 [AV.list 3 (l.map A9.cs), AV.agg w.cs] [] (fun _ : Value => True) (fun v => [.arr v 47 3 ((putWS l w).map A9.cs)]) (fun v => AV.is v) := by
 refine C6 Tryz.func132 rfl Tryz.ntmps132 rfl ?_
 refine R3 ?_
 intro b3
 refine A4 rfl (D6 rfl G8) ?_
 refine R9 ?_
 rw [show (List.map A9.cs l).length = l.length from A5 _]
 refine E2 [(0, _), (3, _), (4, _)] _ (fun (i : Int) => 0 ≤ i ∧ i ≤ l.length ∧ scanW l w.Key l.length = scanW l w.Key i.toNat) (fun (i : Int) => []) (fun (i : Int) => [(5, AV.int i)]) (fun (i : Int) => i.toNat) (l.length) ?_ (E7 ⟨rfl, rfl, rfl, rfl, trivial⟩) ?_
 ·exact ⟨by omega, by omega, rfl⟩
 intro i hinv
 obtain ⟨y, hy⟩ := AB6 l (i - 1).toNat
 refine R9 ?_
 refine L2 rfl (O5 rfl rfl rfl) (fun hc => C7 rfl C0 E5 (B1 rfl hc) (B1 rfl hc) (hy qz5) qz5) ?_
 refine R4 ?_
 refine L2 rfl (O5 rfl rfl rfl) (fun hc => BE3 rfl (B1 rfl hc) (B1 rfl hc)) ?_
 refine R2 ?_
 refine A6 (A0 rfl) ?_ ?_
 ·intro h22
  have hb : 0 < i ∧ Op.bytesLess w.Key y.Key = true := by rw [Av5] at h22; simpa using h22
  have hst : scanW l w.Key l.length = scanW l w.Key (i - 1).toNat := by rw [hinv.2.2]; obtain ⟨n, rfl⟩ : ∃ n : Nat, i = n + 1 := ⟨(i - 1).toNat, by omega⟩; rw [show ((n : Int) + 1).toNat = n + 1 by omega, show ((n : Int) + 1 - 1).toNat = n by omega]; exact Bx9 (by have := hy qz8; rwa [show ((n : Int) + 1 - 1).toNat = n by omega] at this) hb.2
  refine R7 ?_
  refine AA9 ?_
  refine E9 i (i - 1) ?_ ?_ (E7 ⟨rfl, rfl, rfl, rfl, trivial⟩)
  ·exact ⟨by omega, by omega, hst⟩
  omega
 intro h22
 obtain ⟨k, rfl⟩ : ∃ k : Nat, i = k := ⟨i.toNat, by omega⟩
 have hk : scanW l w.Key l.length = k := by rw [hinv.2.2, Int.toNat_natCast]; rw [Av5] at h22; rcases Nat.eq_zero_or_pos k with h0 | h0; subst h0; rfl; (obtain ⟨n, rfl⟩ : ∃ n, k = n + 1 := ⟨k - 1, by omega⟩; exact By0 (by have := hy qz8; rwa [show (((n + 1 : Nat) : Int) - 1).toNat = n by omega] at this) Af1)
 have hh : BR5 l w.Key k = (decide (0 < k) && (y.Key == w.Key)) := by rcases Nat.eq_zero_or_pos k with h0 | h0; subst h0; rfl; (obtain ⟨n, rfl⟩ : ∃ n, k = n + 1 := ⟨k - 1, by omega⟩; have h9 := hy qz8; rw [show (((n + 1 : Nat) : Int) - 1).toNat = n by omega] at h9; simp [BR5, h9])
 refine R10 ?_
 refine L2 rfl (O5 rfl rfl rfl) (fun hc => C7 rfl C0 E5 (B1 rfl hc) (B1 rfl hc) (hy qz5) qz5) ?_
 refine R7 ?_
 refine A6 (A0 rfl) ?_ ?_
 ·intro h37
  have hb : 0 < k ∧ y.Key = w.Key := by simpa using h37
  have he : putWS l w = l.set (k - 1) w := by unfold putWS; rw [hk, if_pos (by rw [hh]; simp [hb])]
  rw [he]
  refine R2 ?_
  refine N3 rfl rfl rfl rfl C0 E5 ?_
  intro v38
  refine R1 ?_
  refine F6 (by' := 40) 0 rfl rfl rfl rfl C0 Tryz.type47 rfl rfl rfl rfl rfl rfl (A0 rfl) (A0 rfl) rfl qz3 ?_
  intro v40_1
  refine R8 ?_
  refine A4 rfl (E8 0 rfl C0 E5 (A0 rfl) rfl (A0 rfl) qz8 (by simp only [List.nil_append, A5]; omega)) ?_
  refine S9 0 rfl rfl rfl (A0 rfl) (A0 rfl) (V2 _) rfl E5 rfl (by simp only [List.nil_append, A5]; omega) ?_
  refine R7 ?_
  exact I0 [0] v40_1 (trivial) rfl qz121 (E4 rfl (A8 rfl V1))
 intro h37
 have he : putWS l w = l.take k ++ w :: l.drop k := by unfold putWS; rw [hk, if_neg (by rw [hh]; simpa using h37)]
 rw [he]
 refine R3 ?_
 refine N3 rfl rfl rfl rfl C0 E5 ?_
 intro v47
 refine R2 ?_
 refine A4 rfl (AK2 rfl C0 E5 (A0 rfl) (A0 rfl) qz3 qz3) ?_
 refine F6 (by' := 40) 0 rfl rfl rfl rfl C0 Tryz.type47 rfl rfl rfl rfl rfl rfl (A0 rfl) (A0 rfl) rfl An4 ?_
 intro v51_2
 refine AT6 (g6 [0] 51 rfl rfl (J5 (C4 (i := 0) rfl) F4) O0) ?_
 refine R3 ?_
 refine M3 _ [(1, false), (2, false), (3, false), (5, false), (6, false), (8, false), (0, true), (4, true), (7, true), (9, true)] F2 F2 rfl AK5 ?_
 refine R2 ?_
 refine M4 rfl rfl rfl (fun ext => i6 rfl C0 E5 (A0 rfl) (A0 rfl) qz3 qz3) ?_
 refine R3 ?_
 refine Q0 rfl rfl rfl (Z4 rfl C0 E5) (fun a _ => qz4) ?_
 intro v52 _
 refine Q0 rfl rfl rfl (J6 (by' := 40) 1 rfl C0 Tryz.type47 rfl rfl rfl rfl rfl rfl (A0 rfl) (A0 rfl) rfl An4) (fun a _ => qz4) ?_
 intro v56_3 _
 refine Q0 rfl rfl rfl (J6 (by' := 40) 1 rfl C0 Tryz.type47 rfl rfl rfl rfl rfl rfl (A0 rfl) (A0 rfl) rfl An4) (fun a _ => qz4) ?_
 intro v59_4 _
 refine Q0 rfl rfl rfl (J6 (by' := 40) 1 rfl C0 Tryz.type47 rfl rfl rfl rfl rfl rfl (A0 rfl) (A0 rfl) rfl An4) (fun a _ => qz4) ?_
 intro v61_5 _
 refine R4 ?_
 exact I0 [1] v61_5 (trivial) rfl qz121 (E4 rfl (A8 rfl V1))
theorem BZ7 (l ws : List A9) (hl : l.length ≤ 2097151) (hw : ws.length ≤ 2097152) : C9 Tryz.prog 106 [AV.list 3 (l.map A9.cs), AV.list 3 (ws.map A9.cs)] [] (fun _ : Value => True) (fun v => [.arr v 47 3 ((o5 (putLS l ws)).map A9.cs)]) (fun v => AV.is v) := by
 refine C6 Tryz.func106 rfl Tryz.ntmps106 rfl ?_
 refine R2 ?_
 refine A4 rfl (D6 rfl G8) ?_
 refine R3 ?_
 refine N3 rfl rfl rfl rfl C0 E5 ?_
 intro v11
 refine R1 ?_
 refine F6 (by' := 40) 0 rfl rfl rfl rfl C0 Tryz.type47 rfl rfl rfl rfl rfl rfl (A0 rfl) (A0 rfl) rfl qz3 ?_
 intro v13_1
 refine R10 ?_
 refine J0 [(4, _), (14, _), (15, _)] _ (fun (i : Nat) (v : Value) => i ≤ ws.length) (fun (i : Nat) (v : Value) => [.arr v 47 3 ((putLS l (ws.take i)).map A9.cs)]) (fun (i : Nat) (v : Value) => [(5, AV.is v), (16, AV.int i)]) (fun (i : Nat) (v : Value) => ws.length - i) (0) (v13_1) ?_ (H7 B0 ⟨rfl, rfl, rfl, rfl, rfl, trivial⟩) ?_
 ·exact Nat.zero_le _
 intro i v hinv
 refine R5 ?_
 refine A6 (A0 rfl) ?_ ?_
 ·intro h17
  have k17 := of_decide_eq_true h17; try simp only [A5] at k17
  have hlt : i < ws.length := by omega
  obtain ⟨x, hx⟩ := get_some hlt
  have hpl := Ao8 (ws.take i) l
  rw [G9] at hpl
  refine R5 ?_
  refine A4 rfl (C7 rfl C0 E5 (A0 rfl) (A0 rfl) hx qz3) ?_
  refine R2 ?_
  intro b7
  refine R5 ?_
  refine AK3 [] rfl rfl rfl rfl Tryz.call132 rfl (BH6 (putLS l (ws.take i)) x qz8) rfl (T0 (AV0 1 (A0 rfl) rfl) (T0 (evb (A0 rfl)) f8)) qz0 qz0 qz0 ?_
  intro x22 ok22
  refine R6 ?_
  refine G4 i v (i + 1) (x22) ?_ ?_ (Le.trans (C1 [1, 1] rfl) (E0 2 (by rw [show putLS l (ws.take (i + 1)) = putWS (putLS l (ws.take i)) x from by rw [List.take_add_one, hx]; exact By1 _ _ _]; rfl) ⟨rfl, rfl, rfl, rfl, rfl, trivial⟩))
  ·omega
  omega
 intro h17
 have k17 := of_decide_eq_false h17; try simp only [A5] at k17
 have hge : ws.length ≤ i := by omega
 rw [List.take_of_length_le hge]
 have hpl := Ao8 ws l
 refine R2 ?_
 refine AWP.le (g6 [0] 5 rfl rfl (J5 (C4 (i := 0) rfl) F4) O0) ?_
 refine R1 ?_
 refine P1 47 3 rfl rfl rfl rfl G8 ?_
 intro v8
 refine R9 ?_
 refine J0 [(4, _), (24, _), (25, _)] _ (fun (i : Nat) (v : Value) => i ≤ (putLS l ws).length) (fun (i : Nat) (v : Value) => [.arr v 47 3 (((putLS l ws).take i).filter (fun w => !w.Gone) |>.map A9.cs)]) (fun (i : Nat) (v : Value) => [(8, AV.is v), (26, AV.int i)]) (fun (i : Nat) (v : Value) => (putLS l ws).length - i) (0) (v8) ?_ (H7 B0 ⟨rfl, rfl, rfl, rfl, rfl, trivial⟩) ?_
 ·exact Nat.zero_le _
 intro i v hinv
 refine R5 ?_
 refine A6 (A0 rfl) ?_ ?_
 ·intro h27
  have k27 := of_decide_eq_true h27; try simp only [A5] at k27
  have hlt : i < (putLS l ws).length := by omega
  obtain ⟨x, hx⟩ := get_some hlt
  have hfl : (((putLS l ws).take i).filter (fun w : A9 => !w.Gone)).length ≤ 4194304 := Nat.le_trans (List.length_filter_le _ _) p5
  refine R5 ?_
  refine A4 rfl (C7 rfl C0 E5 (A0 rfl) (A0 rfl) hx qz3) ?_
  refine R2 ?_
  intro b10
  refine R8 ?_
  refine A6 (A0 rfl) ?_ ?_
  ·intro h32
   refine R4 ?_
   refine F6 (by' := 40) 1 rfl rfl rfl rfl C0 Tryz.type47 rfl rfl rfl rfl rfl rfl (A0 rfl) (A0 rfl) rfl qz3 ?_
   intro v36_2
   refine R6 ?_
   refine G4 i v (i + 1) (v36_2) ?_ ?_ (Le.trans (C1 [0] rfl) (E0 1 qz114 ⟨rfl, rfl, rfl, rfl, rfl, trivial⟩))
   ·omega
   omega
  intro h32
  refine R5 ?_
  refine G4 i v (i + 1) (v) ?_ ?_ (Le.trans (C1 [0] rfl) (E0 1 qz114 ⟨rfl, rfl, rfl, rfl, rfl, trivial⟩))
  ·omega
  omega
 intro h27
 have k27 := of_decide_eq_false h27; try simp only [A5] at k27
 have hge : (putLS l ws).length ≤ i := by omega
 rw [List.take_of_length_le hge]
 refine R7 ?_
 exact I0 [0] (v) (trivial) rfl B0 (E4 rfl (A8 rfl B0))
theorem BP3 (l ws : List A9) (hl : l.length ≤ 2097151) (hw : ws.length ≤ 2097152) : B9 Tryz.prog 106 [AV.list 3 (l.map A9.cs), AV.list 3 (ws.map A9.cs)] (AV.list 3 ((o5 (putLS l ws)).map A9.cs)) :=
  K2 (BZ7 l ws hl hw) fun x _ => J5 (C4 (i := 0) rfl) F4
end Go.Proofs.YtcfkbhnpfjjmjaaGreat
namespace Go.Proofs.YtcfkbhnpfjjmjaaGreat
open Go Go.AV Go.M
attribute [local irreducible] OpW OpA OpS AWP B9 J2 RetOk I6 Le Ev F1
theorem AX3 {c : C5} {n : Nat} (h : c.size ≤ n) : c.Key.length ≤ n ∧ c.Vers.length ≤ n ∧ sizeL T9.size c.Vers ≤ n := by
  unfold C5.size at h
  have : c.Vers.length ≤ n := Nat.le_trans L3 (show sizeL T9.size c.Vers ≤ n by omega)
  omega
theorem Bo9 (t : Int) : B9 Tryz.prog 64 [AV.int t] (AV.bool (isTrue t)) := by
  refine B7 Tryz.func64 rfl Tryz.ntmps64 rfl ?_
  refine R7 ?_
  refine A4 rfl (B2 rfl Tryz.call25 rfl (s5 _ _ _) (A1 (A0 rfl) (A1 D8 (A1 D8 A7)))) ?_
  refine R3 ?_
  exact D4 rfl (A8 rfl V1)
theorem Bp0 (t : Int) : B9 Tryz.prog 239 [AV.int t] (AV.bool (within t 1 100000)) := by
  refine B7 Tryz.func239 rfl Tryz.ntmps239 rfl ?_
  refine R7 ?_
  refine A4 rfl (B2 rfl Tryz.call30 rfl (M9 _ _ _) (A1 (A0 rfl) (A1 D8 (A1 D8 A7)))) ?_
  refine R3 ?_
  exact D4 rfl (A8 rfl V1)
theorem Ac8 (t : Int) : B9 Tryz.prog 67 [AV.int t] (AV.bool (isTrue t)) := by
  refine B7 Tryz.func67 rfl Tryz.ntmps67 rfl ?_
  refine R7 ?_
  refine A4 rfl (B2 rfl Tryz.call30 rfl (M9 _ _ _) (A1 (A0 rfl) (A1 D8 (A1 D8 A7)))) ?_
  refine R3 ?_
  exact D4 rfl (A8 rfl V1)
theorem Bp1 (c : C5) (hs : c.size ≤ 4194304) : B9 Tryz.prog 251 [AV.agg c.cs] (AV.bool (l3Cell c)) := by
 have hcl := AX3 hs
 refine B7 Tryz.func251 rfl Tryz.ntmps251 rfl ?_
 refine R3 ?_
 intro b1
 refine R11 ?_
 refine E2 [(1, _), (6, _), (7, _)] _ (fun (i : Nat) => i ≤ c.Vers.length ∧ (c.Vers.all (AA5 c.Key) && adj AG2 c.Vers) = ((c.Vers.drop i).all (AA5 c.Key) && adj AG2 (c.Vers.drop (i - 1)))) (fun (i : Nat) => []) (fun (i : Nat) => [(8, AV.int i)]) (fun (i : Nat) => c.Vers.length - i) (0) ?_ (E7 ⟨rfl, rfl, rfl, rfl, trivial⟩) ?_
 ·exact ⟨Nat.zero_le _, rfl⟩
 intro i hinv
 refine R5 ?_
 refine A6 (A0 rfl) ?_ ?_
 ·intro h9
  have k9 := of_decide_eq_true h9; try simp only [A5] at k9
  have hlt : i < c.Vers.length := by omega
  obtain ⟨x, hx⟩ := get_some hlt
  obtain ⟨y, hy⟩ := get_some (show i - 1 < c.Vers.length by omega)
  have hsx : x.size ≤ 4194304 := Nat.le_trans (W4 hx) hcl.2.2
  unfold T9.size at hsx
  refine R6 ?_
  refine A4 rfl (C7 rfl U5 a7 (A0 rfl) (A0 rfl) hx qz3) ?_
  refine R2 ?_
  intro b4
  refine R7 ?_
  refine C3 rfl rfl (B2 rfl Tryz.call239 rfl (Bp0 _) (A1 (A0 rfl) A7)) ?_
  refine R8 ?_
  refine L2 rfl (S2 rfl rfl rfl) (fun hc => B2 rfl Tryz.call101 rfl (Aq6 _ _ _ qz8 qz8) (A1 (B1 rfl hc) (A1 (B1 rfl hc) (A1 (B1 rfl hc) A7)))) ?_
  refine R10 ?_
  refine L2 rfl (U6 rfl rfl rfl) (fun hc => C7 rfl U5 a7 (B1 rfl hc) (B1 rfl hc) hy qz5) ?_
  refine R8 ?_
  refine A6 (A0 rfl) ?_ ?_
  ·intro h42
   have hfin : l3Cell c = false := by unfold l3Cell; rw [hinv.2]; cases hg : AA5 c.Key x with | false => (rw [Ai5 hx hg]; simp) | true => (have hb : 0 < i ∧ AG2 y x = false := (by unfold AA5 at hg; unfold AG2; simp_all; try grind); rw [AJ1 hx hy hb.1 hb.2]; simp)
   refine R5 ?_
   exact D4 rfl (A8 rfl qz152)
  intro h42
  have hg : AA5 c.Key x = true ∧ (0 < i → AG2 y x = true) := by unfold AA5 AG2; simp_all
  refine R5 ?_
  refine E9 i (i + 1) ?_ ?_ (O4 1 ⟨rfl, rfl, rfl, rfl, trivial⟩)
  ·exact ⟨by omega, by rw [hinv.2, Ai4 hx hg.1, AJ0 hx hy hg.2]⟩
  omega
 intro h9
 have k9 := of_decide_eq_false h9; try simp only [A5] at k9
 have hge : c.Vers.length ≤ i := by omega
 refine R5 ?_
 refine A4 rfl (B2 rfl Tryz.call99 rfl (AA0 _ qz8) (A1 (A0 rfl) A7)) ?_
 refine R4 ?_
 refine L4 rfl (fun hc => B2 rfl Tryz.call30 rfl (M9 _ _ _) (A1 (B1 rfl hc) (A1 D8 (A1 D8 A7)))) ?_
 refine R4 ?_
 exact D4 rfl (A8 rfl qz152)
theorem Ay1 (l : List C5) (hs : sizeL C5.size l ≤ 4194304) : B9 Tryz.prog 238 [AV.list 2 (l.map C5.cs)] (AV.bool (l3Good l)) := by
 refine B7 Tryz.func238 rfl Tryz.ntmps238 rfl ?_
 refine S1 (t := 0) rfl fun hl => ?_
 try simp only [A5] at hl
 refine R12 ?_
 refine E2 [(0, _), (5, _), (6, _)] _ (fun (i : Nat) => i ≤ l.length ∧ (l.all l3Cell && adj cLess l) = ((l.drop i).all l3Cell && adj cLess (l.drop (i - 1)))) (fun (i : Nat) => []) (fun (i : Nat) => [(7, AV.int i)]) (fun (i : Nat) => l.length - i) (0) ?_ (E7 ⟨rfl, rfl, rfl, rfl, trivial⟩) ?_
 ·exact ⟨Nat.zero_le _, rfl⟩
 intro i hinv
 refine R5 ?_
 refine A6 (A0 rfl) ?_ ?_
 ·intro h8
  have k8 := of_decide_eq_true h8; try simp only [A5] at k8
  have hlt : i < l.length := by omega
  obtain ⟨x, hx⟩ := get_some hlt
  obtain ⟨y, hy⟩ := get_some (show i - 1 < l.length by omega)
  have hsx : x.size ≤ 4194304 := Nat.le_trans (W4 hx) hs
  refine R6 ?_
  refine A4 rfl (C7 rfl H5 P2 (A0 rfl) (A0 rfl) hx qz3) ?_
  refine R2 ?_
  intro b4
  refine R6 ?_
  refine C3 rfl rfl (B2 rfl Tryz.call251 rfl (Bp1 _ Y0) (A1 (A0 rfl) A7)) ?_
  refine R8 ?_
  refine L2 rfl (U6 rfl rfl rfl) (fun hc => C7 rfl H5 P2 (B1 rfl hc) (B1 rfl hc) hy qz5) ?_
  refine R4 ?_
  refine L2 rfl (U6 rfl rfl rfl) (fun hc => An7 rfl (B1 rfl hc) (B1 rfl hc)) ?_
  refine R3 ?_
  refine A6 (A0 rfl) ?_ ?_
  ·intro h29
   have hfin : l3Good l = false := by unfold l3Good; rw [hinv.2]; cases hg : l3Cell x with | false => (rw [Ai5 hx hg]; simp) | true => (have hb : 0 < i ∧ cLess y x = false := (by unfold cLess; simp_all; try grind); rw [AJ1 hx hy hb.1 hb.2]; simp)
   refine R5 ?_
   exact D4 rfl (A8 rfl qz143)
  intro h29
  have hg : l3Cell x = true ∧ (0 < i → cLess y x = true) := by unfold cLess; simp_all
  refine R5 ?_
  refine E9 i (i + 1) ?_ ?_ (O4 1 ⟨rfl, rfl, rfl, rfl, trivial⟩)
  ·exact ⟨by omega, by rw [hinv.2, Ai4 hx hg.1, AJ0 hx hy hg.2]⟩
  omega
 intro h8
 have k8 := of_decide_eq_false h8; try simp only [A5] at k8
 have hge : l.length ≤ i := by omega
 refine R9 ?_
 exact D4 rfl (A8 rfl qz143)
theorem CI2 {c : C5} (h : 1 ≤ c.Vers.length) : ∃ v, c.Vers[c.Vers.length - 1]? = some v ∧ lastV c = v.Time := by
  obtain ⟨v, hv⟩ := get_some (show c.Vers.length - 1 < c.Vers.length by omega)
  refine ⟨v, hv, ?_⟩
  unfold lastV; rw [List.getLast?_eq_getElem?, hv]
theorem Aq7 (l : List C5) (k : Str) : B9 Tryz.prog 216 [AV.list 2 (l.map C5.cs), AV.str k] (AV.int (atC l k)) := by
 refine B7 Tryz.func216 rfl Tryz.ntmps216 rfl ?_
 refine S1 (t := 0) rfl fun hl => ?_
 try simp only [A5] at hl
 refine R12 ?_
 refine E2 [(1, _), (7, _), (8, _)] _ (fun (i : Nat) => i ≤ l.length ∧ ∀ j x, j < i → l[j]? = some x → x.Key ≠ k) (fun (i : Nat) => []) (fun (i : Nat) => [(9, AV.int i)]) (fun (i : Nat) => l.length - i) (0) ?_ (E7 ⟨rfl, rfl, rfl, rfl, trivial⟩) ?_
 ·exact ⟨Nat.zero_le _, fun j x h => by omega⟩
 intro i hinv
 refine R5 ?_
 refine A6 (A0 rfl) ?_ ?_
 ·intro h10
  have k10 := of_decide_eq_true h10; try simp only [A5] at k10
  have hlt : i < l.length := by omega
  obtain ⟨x, hx⟩ := get_some hlt
  refine R6 ?_
  refine A4 rfl (C7 rfl H5 P2 (A0 rfl) (A0 rfl) hx qz3) ?_
  refine R2 ?_
  intro b6
  refine R10 ?_
  refine A6 (A0 rfl) ?_ ?_
  ·intro h17
   refine R6 ?_
   exact D4 rfl (A8 rfl qz115)
  intro h17
  refine R5 ?_
  refine E9 i (i + 1) ?_ ?_ (O4 1 ⟨rfl, rfl, rfl, rfl, trivial⟩)
  ·exact ⟨by omega, fun j y hj hy => if hji : j < i then hinv.2 j y hji hy else (by have e : j = i := qz8; subst e; rw [hx] at hy; injection hy with hy; subst hy; simpa using h17)⟩
  omega
 intro h10
 have k10 := of_decide_eq_false h10; try simp only [A5] at k10
 have hge : l.length ≤ i := by omega
 refine R6 ?_
 exact D4 rfl (A8 rfl qz115)
theorem Ac9 (l : List C5) (k : Str) (ho : w5 l) (hs : sizeL C5.size l ≤ 4194304) : B9 Tryz.prog 237 [AV.list 2 (l.map C5.cs), AV.str k] (AV.int (lastTime l k)) := by
 have hl : l.length ≤ 4194304 := Nat.le_trans L3 hs
 refine B7 Tryz.func237 rfl Tryz.ntmps237 rfl ?_
 refine R8 ?_
 refine A4 rfl (B2 rfl Tryz.call216 rfl (Aq7 _ _) (A1 (A0 rfl) (A1 (A0 rfl) A7))) ?_
 refine R8 ?_
 refine A6 (A0 rfl) ?_ ?_
 ·intro h10
  have k10 := of_decide_eq_true h10; try simp only [A5] at k10
  have hn : findC l k = none := BO5 k10
  have he : lastTime l k = 0 := by unfold lastTime; rw [hn]
  rw [he]
  refine R5 ?_
  exact D4 rfl (A8 rfl V1)
 intro h10
 have k10 := of_decide_eq_false h10; try simp only [A5] at k10
 obtain ⟨p, c, hp, hc, hf⟩ := BO6 k10
 rw [hp]
 obtain ⟨v, hv, hlv⟩ := CI2 (ho.2 c (C4 hc))
 have hcl := AX3 (Nat.le_trans (W4 hc) hs)
 have hc1 := ho.2 c (C4 hc)
 have he : lastTime l k = v.Time := by unfold lastTime; rw [hf]; exact hlv
 rw [he]
 refine R5 ?_
 refine C3 rfl rfl (C7 rfl H5 P2 (A0 rfl) (A0 rfl) hc qz3) ?_
 refine R4 ?_
 refine C3 rfl rfl (C7 rfl H5 P2 (A0 rfl) (A0 rfl) hc qz3) ?_
 refine R4 ?_
 refine C3 rfl rfl (C7 rfl U5 a7 (A0 rfl) (A0 rfl) hv qz3) ?_
 refine R5 ?_
 exact D4 rfl (A8 rfl V1)
end Go.Proofs.YtcfkbhnpfjjmjaaGreat
namespace Go.M
open Go.AV
end Go.M
namespace Go.Proofs.YtcfkbhnpfjjmjaaGreat
open Go Go.AV Go.M
attribute [local irreducible] OpW OpA OpS AWP B9 J2 C9 OpE RetOk H0 I6 Le Ev F1 J8 Int.tmod Int.tdiv IntKind.wrap
end Go.Proofs.YtcfkbhnpfjjmjaaGreat
namespace Go.M
open Go.AV
end Go.M
namespace Go.Proofs.YtcfkbhnpfjjmjaaGreat
open Go Go.AV Go.M
attribute [local irreducible] OpW OpA OpS AWP B9 J2 C9 OpE RetOk H0 I6 Le Ev F1 J8 Int.tmod Int.tdiv IntKind.wrap
end Go.Proofs.YtcfkbhnpfjjmjaaGreat
namespace Go.M
open Go.AV
end Go.M
namespace Go.Proofs.YtcfkbhnpfjjmjaaGreat
open Go Go.AV Go.M
attribute [local irreducible] OpW OpA OpS AWP B9 J2 C9 OpE RetOk H0 I6 Le Ev F1 J8 Int.tmod Int.tdiv IntKind.wrap
end Go.Proofs.YtcfkbhnpfjjmjaaGreat
namespace Go.M
open Go.AV
end Go.M
namespace Go.Proofs.YtcfkbhnpfjjmjaaGreat
open Go Go.AV Go.M
attribute [local irreducible] OpW OpA OpS AWP B9 J2 C9 OpE RetOk H0 I6 Le Ev F1 J8
end Go.Proofs.YtcfkbhnpfjjmjaaGreat
namespace Go.M
open Go.AV
structure N6 where
  p : Nat
  seed : Int
def AN9 (l : List Int) : AV := AV.list 1 (l.map fun x => [AV.ik .u8 x])
def S0 (code : List Int) (c : N6) : List AV := [AN9 code, AV.int c.p, AV.ik .u64 c.seed]
def Z2 (code : List Int) : Prop := ∀ x ∈ code, 0 ≤ x ∧ x ≤ 255
theorem Bh8 {l : List Int} (h : ∀ x ∈ l, (Lit.int .u8 x).wf = true) : Z2 l := fun x hx => by
  have := h x hx
  simp only [Lit.wf, IntKind.min, IntKind.max, IntKind.signed, IntKind.bits] at this
  simp at this
  omega
theorem Av7 {x : Int} (h : 0 ≤ x ∧ x ≤ 255) : IntKind.i64.wrap x = x := AV8 qz8
theorem y6 (x : Int) : 0 ≤ bandI x 255 ∧ bandI x 255 ≤ 255 := by
  unfold bandI
  have h1 : (BitVec.ofInt IntKind.u64.bits x &&& BitVec.ofInt IntKind.u64.bits 255).toNat ≤ 255 := by
    rw [BitVec.toNat_and]
    exact Nat.le_trans Nat.and_le_right D3
  generalize (BitVec.ofInt IntKind.u64.bits x &&& BitVec.ofInt IntKind.u64.bits 255).toNat = n at h1
  unfold IntKind.wrap
  simp [IntKind.bits, IntKind.signed]
  omega
def bigB (code more : List Int) : Bool := decide ((1048576 : Int) < code.length) || decide ((1048576 : Int) - code.length < more.length)
end Go.M
namespace Go.Proofs.YtcfkbhnpfjjmjaaGreat
open Go Go.AV Go.M
attribute [local irreducible] OpW OpA OpS AWP B9 J2 C9 OpE RetOk H0 I6 Le Ev F1 J8 Int.tmod IntKind.wrap bandI
theorem Ay2 (b : Nat) (code : List Int) (hcode : Z2 code) (c : N6) (hp : c.p ≤ 8000000) : C9 Tryz.prog 55 [AV.ptr b 0] [.box b 55 (S0 code c)] (fun x : N6 × Int => x.1.p ≤ c.p + 1 ∧ 0 ≤ x.2 ∧ x.2 ≤ 255) (fun x => [.box b 55 (S0 code x.1)]) (fun x => AV.int x.2) := by
 have hcb := hcode
 refine C6 Tryz.func55 rfl Tryz.ntmps55 rfl ?_
 refine R6 ?_
 try rw [Av7 hzb]
 refine R16 ?_
 refine A6 (A0 rfl) ?_ ?_
 ·intro h13
  have k13 := of_decide_eq_true h13; try simp only [A5] at k13
  obtain ⟨z, hz⟩ := get_some (show c.p < code.length by omega)
  have hzb := hcb z (C4 hz)
  refine R9 ?_
  refine C3 rfl rfl (C7 rfl d8 Tryz.sizeOf5 (A0 rfl) (A0 rfl) hz rfl) ?_
  refine R1 ?_
  refine C3 rfl rfl (AG8 rfl F2 c5 (A0 rfl)) ?_
  try rw [Av7 hzb]
  refine R20 ?_
  refine A4 rfl (w_mul rfl (A0 rfl) D8) ?_
  refine R1 ?_
  refine A4 rfl (AG8 rfl F2 Tryz.underlying53 (A0 rfl)) ?_
  refine A4 rfl (BE2 rfl (A0 rfl) (A0 rfl)) ?_
  refine A4 rfl (BE2 rfl (A0 rfl) D8) ?_
  refine R18 ?_
  refine A6 (A0 rfl) ?_ ?_
  ·intro h53
   have k53 := of_decide_eq_true h53; try simp only [A5] at k53
   refine R6 ?_
   (refine I0 [0] ((⟨c.p + 1, _⟩, _)) ?_ rfl V7 (E4 rfl (A8 rfl V1)); first | exact ⟨Nat.le_refl _, hzb⟩ | exact ⟨Nat.le_refl _, Int.le_refl 0, (show (0 : Int) ≤ 255 by decide)⟩ | (rw [Av7 (y6 _)]; exact ⟨Nat.le_refl _, y6 _⟩))
  intro h53
  have k53 := of_decide_eq_false h53; try simp only [A5] at k53
  refine R7 ?_
  refine A4 rfl (w_shr rfl (A0 rfl) D8 D3 D3) ?_
  refine A4 rfl (w_band rfl (A0 rfl) D8) ?_
  refine A4 rfl (AG8 rfl F2 c5 (A0 rfl)) ?_
  refine R3 ?_
  (refine I0 [0] ((⟨c.p + 1, _⟩, _)) ?_ rfl V7 (E4 rfl (A8 rfl V1)); first | exact ⟨Nat.le_refl _, hzb⟩ | exact ⟨Nat.le_refl _, Int.le_refl 0, (show (0 : Int) ≤ 255 by decide)⟩ | (rw [Av7 (y6 _)]; exact ⟨Nat.le_refl _, y6 _⟩))
 intro h13
 have k13 := of_decide_eq_false h13; try simp only [A5] at k13
 refine R19 ?_
 refine A4 rfl (w_mul rfl (A0 rfl) D8) ?_
 refine R1 ?_
 refine A4 rfl (AG8 rfl F2 Tryz.underlying53 (A0 rfl)) ?_
 refine A4 rfl (BE2 rfl (A0 rfl) (A0 rfl)) ?_
 refine A4 rfl (BE2 rfl (A0 rfl) D8) ?_
 refine R18 ?_
 refine A6 (A0 rfl) ?_ ?_
 ·intro h53
  have k53 := of_decide_eq_true h53; try simp only [A5] at k53
  refine R6 ?_
  (refine I0 [0] ((⟨c.p + 1, _⟩, _)) ?_ rfl V7 (E4 rfl (A8 rfl V1)); first | exact ⟨Nat.le_refl _, hzb⟩ | exact ⟨Nat.le_refl _, Int.le_refl 0, (show (0 : Int) ≤ 255 by decide)⟩ | (rw [Av7 (y6 _)]; exact ⟨Nat.le_refl _, y6 _⟩))
 intro h53
 have k53 := of_decide_eq_false h53; try simp only [A5] at k53
 refine R7 ?_
 refine A4 rfl (w_shr rfl (A0 rfl) D8 D3 D3) ?_
 refine A4 rfl (w_band rfl (A0 rfl) D8) ?_
 refine A4 rfl (AG8 rfl F2 c5 (A0 rfl)) ?_
 refine R3 ?_
 (refine I0 [0] ((⟨c.p + 1, _⟩, _)) ?_ rfl V7 (E4 rfl (A8 rfl V1)); first | exact ⟨Nat.le_refl _, hzb⟩ | exact ⟨Nat.le_refl _, Int.le_refl 0, (show (0 : Int) ≤ 255 by decide)⟩ | (rw [Av7 (y6 _)]; exact ⟨Nat.le_refl _, y6 _⟩))
theorem L0 (b : Nat) (code : List Int) (hcode : Z2 code) (c : N6) (n : Int) (hn : n ≤ 1000000) (hp : c.p ≤ 7000000) : C9 Tryz.prog 22 [AV.ptr b 0, AV.int n] [.box b 55 (S0 code c)] (fun x : N6 × Int => x.1.p ≤ c.p + 2 ∧ 0 ≤ x.2 ∧ (x.2 < n ∨ x.2 = 0)) (fun x => [.box b 55 (S0 code x.1)]) (fun x => AV.int x.2) := by
 refine C6 Tryz.func22 rfl Tryz.ntmps22 rfl ?_
 refine R10 ?_
 refine A6 (A0 rfl) ?_ ?_
 ·intro h7
  have k7 := of_decide_eq_true h7; try simp only [A5] at k7
  refine R5 ?_
  (refine I0 [0] ((_, _)) ?_ rfl V7 (E4 rfl (A8 rfl V1)); (dsimp only; first | omega | exact ⟨by omega, Int.tmod_nonneg _ qz8, .inl (Int.tmod_lt_of_pos _ qz8)⟩))
 intro h7
 have k7 := of_decide_eq_false h7; try simp only [A5] at k7
 refine R4 ?_
 refine F0 [0] rfl rfl rfl rfl Tryz.call55 rfl (Ay2 _ _ hcode _ qz8) (A1 (A0 rfl) A7) rfl ?_
 intro x9 ok9
 refine R8 ?_
 refine A6 (A0 rfl) ?_ ?_
 ·intro h11
  have k11 := of_decide_eq_true h11; try simp only [A5] at k11
  refine R2 ?_
  refine A4 rfl (AR3 rfl (A0 rfl) D8 qz3) ?_
  refine R1 ?_
  refine F0 [0] rfl rfl rfl rfl Tryz.call55 rfl (Ay2 _ _ hcode _ qz8) (A1 (A0 rfl) A7) rfl ?_
  intro x15 ok15
  refine R7 ?_
  refine A4 rfl (Ag3 rfl (A0 rfl) (A0 rfl) qz8) ?_
  refine R3 ?_
  (refine I0 [0] ((_, _)) ?_ rfl V7 (E4 rfl (A8 rfl V1)); (dsimp only; first | omega | exact ⟨by omega, Int.tmod_nonneg _ qz8, .inl (Int.tmod_lt_of_pos _ qz8)⟩))
 intro h11
 have k11 := of_decide_eq_false h11; try simp only [A5] at k11
 refine R5 ?_
 refine A4 rfl (Ag3 rfl (A0 rfl) (A0 rfl) qz8) ?_
 refine R3 ?_
 (refine I0 [0] ((_, _)) ?_ rfl V7 (E4 rfl (A8 rfl V1)); (dsimp only; first | omega | exact ⟨by omega, Int.tmod_nonneg _ qz8, .inl (Int.tmod_lt_of_pos _ qz8)⟩))
theorem AN0 (b : Nat) (code : List Int) (hcode : Z2 code) (c : N6) (n : Int) (hn : n ≤ 1000000) (hp : c.p ≤ 7000000) : C9 Tryz.prog 53 [AV.ptr b 0, AV.int n] [.box b 55 (S0 code c)] (fun x : N6 × Bool => x.1.p ≤ c.p + 2) (fun x => [.box b 55 (S0 code x.1)]) (fun x => AV.bool x.2) := by
  refine C6 Tryz.func53 rfl Tryz.ntmps53 rfl ?_
  refine R8 ?_
  refine F0 [0] rfl rfl rfl rfl Tryz.call22 rfl (L0 _ _ hcode _ _ qz8 qz8) (A1 (A0 rfl) (A1 (A0 rfl) A7)) rfl ?_
  intro x7 ok7
  refine R4 ?_
  (refine I0 [0] ((_, _)) ?_ rfl V7 (E4 rfl (A8 rfl B0)); exact ok7.1)
theorem CI3 (b : Nat) (code : List Int) (hcode : Z2 code) (c : N6) (l : List Str) (hl : (∀ s ∈ l, s.length ≤ 64) ∧ 1 ≤ l.length ∧ l.length ≤ 1000) (hp : c.p ≤ 7000000) : C9 Tryz.prog 133 [AV.ptr b 0, strs l] [.box b 55 (S0 code c)] (fun x : N6 × Str => x.1.p ≤ c.p + 2 ∧ x.2.length ≤ 64) (fun x => [.box b 55 (S0 code x.1)]) (fun x => AV.str x.2) := by
  obtain ⟨hls, hl1, hl2⟩ := hl
  refine C6 Tryz.func133 rfl Tryz.ntmps133 rfl ?_
  refine R2 ?_
  refine A4 rfl (D6 rfl (L5 (l := []) rfl)) ?_
  refine R7 ?_
  refine F0 [0] rfl rfl rfl rfl Tryz.call22 rfl (L0 _ _ hcode _ _ f6 qz8) (A1 (A0 rfl) (A1 (A0 rfl) A7)) rfl ?_
  intro x9 ok9
  simp only [A5] at ok9
  obtain ⟨y, hy⟩ := get_some (show x9.2.toNat < l.length by omega)
  refine A4 rfl (C7 rfl F9 K3 (A0 rfl) (A0 rfl) hy qz8) ?_
  refine R4 ?_
  (refine I0 [0] ((_, _)) ?_ rfl V7 (E4 rfl (A8 rfl B0)); exact ⟨ok9.1, hls _ (C4 hy)⟩)
theorem l6 (b : Nat) (code : List Int) (hcode : Z2 code) (c : N6) (l : List Int) (hl : 1 ≤ l.length ∧ l.length ≤ 1000) (hp : c.p ≤ 7000000) : C9 Tryz.prog 156 [AV.ptr b 0, ints l] [.box b 55 (S0 code c)] (fun x : N6 × Int => x.1.p ≤ c.p + 2 ∧ x.2 ∈ l) (fun x => [.box b 55 (S0 code x.1)]) (fun x => AV.int x.2) := by
  obtain ⟨hl1, hl2⟩ := hl
  refine C6 Tryz.func156 rfl Tryz.ntmps156 rfl ?_
  refine R10 ?_
  refine F0 [0] rfl rfl rfl rfl Tryz.call22 rfl (L0 _ _ hcode _ _ f6 qz8) (A1 (A0 rfl) (A1 (A0 rfl) A7)) rfl ?_
  intro x9 ok9
  simp only [A5] at ok9
  obtain ⟨y, hy⟩ := get_some (show x9.2.toNat < l.length by omega)
  refine A4 rfl (C7 rfl B4 B6 (A0 rfl) (A0 rfl) hy qz8) ?_
  refine R4 ?_
  (refine I0 [0] ((_, _)) ?_ rfl V7 (E4 rfl (A8 rfl B0)); exact ⟨ok9.1, C4 hy⟩)
end Go.Proofs.YtcfkbhnpfjjmjaaGreat
