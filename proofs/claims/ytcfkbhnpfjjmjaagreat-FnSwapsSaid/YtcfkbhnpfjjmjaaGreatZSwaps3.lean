/- Texts of the claim, part 3. -/
import Derived.Lib.ItoaNum
import Derived.Lib.ItoaMem
import Derived.Lib.Split
import Derived.Lib.SplitLaws
import Derived.Lib.AtoiAllCases
import Derived.Lib.Strings
import Derived.Lib.IndexMore
import Derived.Lib.Join
import Derived.Test.YtcfkbhnpfjjmjaaGreatRows
import Derived.Sort.OwnSortedInts
import Derived.Sort.EncStr
import Derived.Shelf.GgSortFunc.RowK
import Derived.Shelf.Sort.Plain
import Derived.Shelf.Slices.In.SortNone
import Derived.Test.YtcfkbhnpfjjmjaaGreatProg
import Derived.Test.YtcfkbhnpfjjmjaaGreatZSwaps2
set_option linter.unusedVariables false
set_option linter.unusedSimpArgs false
set_option maxRecDepth 100000
set_option maxHeartbeats 4000000
namespace Go.M
open Go.AV
def hRec (h : E7) : L2 := ⟨1, h.Txn, h.Time, h.Lead, h.Reads, h.Writes, false⟩
def hOf (r : L2) : E7 := ⟨r.Txn, r.Time, r.Lead, r.Reads, r.Writes⟩
def hasK (l : List A9) (k : Str) : Bool := l.any fun w => w.Key == k
def hasS (l : List Str) (k : Str) : Bool := l.any fun x => k == x
theorem p5 {l : List A9} {k : Str} : hasK l k = true ↔ ∃ w ∈ l, w.Key = k := by unfold hasK; simp
theorem AK5 {l : List Str} {k : Str} : hasS l k = true ↔ k ∈ l := by unfold hasS; simp
def overlap (ws : List A9) (rs : List Str) (os : List A9) : Bool := ws.any fun w => hasK os w.Key || hasS rs w.Key
def clash (h k : E7) : Bool := overlap h.Writes k.Reads k.Writes || overlap k.Writes h.Reads h.Writes
def apart (h : E7) (rs : List Str) (ws : List A9) : Bool := rs.all (fun k => !hasK h.Writes k) && ws.all (fun w => !(hasK h.Writes w.Key || hasS h.Reads w.Key))
theorem AT5 {h : E7} {rs : List Str} {ws : List A9} : apart h rs ws = true ↔ (∀ k ∈ rs, ∀ w ∈ h.Writes, w.Key ≠ k) ∧ (∀ w ∈ ws, (∀ v ∈ h.Writes, v.Key ≠ w.Key) ∧ w.Key ∉ h.Reads) := by
  unfold apart
  simp only [Bool.and_eq_true, List.all_eq_true, Bool.not_eq_true', Bool.or_eq_false_iff]
  constructor
  · rintro ⟨h1, h2⟩
    refine ⟨fun k hk w hw e => ?_, fun w hw => ⟨fun v hv e => ?_, fun hr => ?_⟩⟩
    · have := h1 k hk; rw [p5.2 ⟨w, hw, e⟩] at this; cases this
    · have := (h2 w hw).1; rw [p5.2 ⟨v, hv, e⟩] at this; cases this
    · have := (h2 w hw).2; rw [AK5.2 hr] at this; cases this
  · rintro ⟨h1, h2⟩
    refine ⟨fun k hk => ?_, fun w hw => ⟨?_, ?_⟩⟩
    · cases e : hasK h.Writes k with
      | false => rfl
      | true => obtain ⟨v, hv, ev⟩ := p5.1 e; exact (h1 k hk v hv ev).elim
    · cases e : hasK h.Writes w.Key with
      | false => rfl
      | true => obtain ⟨v, hv, ev⟩ := p5.1 e; exact ((h2 w hw).1 v hv ev).elim
    · cases e : hasS h.Reads w.Key with
      | false => rfl
      | true => exact ((h2 w hw).2 (AK5.1 e)).elim
theorem Az7 (h g : E7) : clash h g = !apart g h.Reads h.Writes := by
  cases ha : apart g h.Reads h.Writes with
  | true =>
    obtain ⟨h1, h2⟩ := AT5.1 ha
    refine Bool.eq_false_iff.2 fun hc => ?_
    unfold clash overlap at hc
    simp only [Bool.or_eq_true, List.any_eq_true] at hc
    rcases hc with ⟨w, hw, e | e⟩ | ⟨w, hw, e | e⟩
    · obtain ⟨v, hv, ev⟩ := p5.1 e; exact (h2 w hw).1 v hv ev
    · exact (h2 w hw).2 (AK5.1 e)
    · obtain ⟨v, hv, ev⟩ := p5.1 e; exact (h2 v hv).1 w hw ev.symm
    · exact h1 _ (AK5.1 e) w hw rfl
  | false =>
    rw [Bool.not_false]
    cases hc : clash h g with
    | true => rfl
    | false =>
      rw [← ha, AT5.2]
      unfold clash overlap at hc
      simp only [Bool.or_eq_false_iff, List.any_eq_false, Bool.or_eq_true, not_or] at hc
      refine ⟨fun k hk w hw e => (hc.2 w hw).2 (AK5.2 (e ▸ hk)), fun w hw => ⟨fun v hv e => (hc.1 w hw).1 (p5.2 ⟨v, hv, e⟩), fun hr => (hc.1 w hw).2 (AK5.2 hr)⟩⟩
theorem As1 {h : E7} {rs : List Str} {ws : List A9} {t m l : Int} (ha : apart h rs ws = true) : apart ⟨t, m, l, rs, ws⟩ h.Reads h.Writes = true := by
  obtain ⟨h1, h2⟩ := AT5.1 ha
  exact AT5.2 ⟨fun k hk w hw e => (h2 w hw).2 (e ▸ hk), fun w hw => ⟨fun v hv e => (h2 v hv).1 w hw e.symm, fun hr => h1 _ hr w hw rfl⟩⟩
def fullC (cells : List C4) (k : Str) : Bool := match findC cells k with
  | some c => decide (16 ≤ c.Vers.length)
  | none => false
def hWs (l : List E7) : List A9 := (l.map E7.Writes).flatten
def roomKs (cells : List C4) (ws : List A9) : List Str := keysI (g7 cells ++ M2 ws)
def room (cells : List C4) (ws : List A9) : Bool := ws.all (fun w => !fullC cells w.Key) && decide ((roomKs cells ws).length ≤ 24)
theorem BH7 (a b : List E7) : hWs (a ++ b) = hWs a ++ hWs b := by unfold hWs; simp
theorem BD8 (a : E7) (b : List E7) : hWs (a :: b) = a.Writes ++ hWs b := by unfold hWs; simp
theorem AQ2 {l : List E7} {w : A9} : w ∈ hWs l ↔ ∃ h ∈ l, w ∈ h.Writes := by
  unfold hWs
  simp only [List.mem_flatten, List.mem_map]
  constructor
  · rintro ⟨_, ⟨a, ha, rfl⟩, hw⟩; exact ⟨a, ha, hw⟩
  · rintro ⟨h, hh, hw⟩; exact ⟨_, ⟨h, hh, rfl⟩, hw⟩
theorem BH8 {cells : List C4} {ws : List A9} {k : Str} : k ∈ roomKs cells ws ↔ k ∈ g7 cells ∨ k ∈ M2 ws := by
  unfold roomKs; rw [Ac5, List.mem_append]
theorem By7 {l : List Str} (h : n7 l) : l.Nodup := h.imp fun {a b} hab e => by rw [e, I1] at hab; cases hab
theorem BD9 {α : Type} [BEq α] [LawfulBEq α] : ∀ {a b : List α}, a.Nodup → (∀ x ∈ a, x ∈ b) → a.length ≤ b.length
  | [], _, _, _ => Nat.zero_le _
  | x :: a, b, ha, h => by
    obtain ⟨h1, h2⟩ := List.nodup_cons.1 ha
    have hx := h x List.mem_cons_self
    have ih := BD9 (b := b.erase x) h2 fun y hy => (List.mem_erase_of_ne (fun e : y = x => h1 (by rw [← e]; exact hy))).2 (h y (List.mem_cons_of_mem _ hy))
    rw [List.length_erase_of_mem hx] at ih
    have := List.length_pos_of_mem hx
    rw [H6]; omega
theorem srtS_le {a b : List Str} (ha : n7 a) (h : ∀ x ∈ a, x ∈ b) : a.length ≤ b.length := BD9 (By7 ha) h
theorem As2 {c1 c2 : List C4} {w1 w2 : List A9} (h : ∀ k, k ∈ g7 c1 ∨ k ∈ M2 w1 → k ∈ g7 c2 ∨ k ∈ M2 w2) : (roomKs c1 w1).length ≤ (roomKs c2 w2).length :=
  srtS_le (BU1 _) fun k hk => BH8.2 (h k (BH8.1 hk))
theorem BU6 {cells : List C4} {a b : List A9} (h : ∀ w, w ∈ a ↔ w ∈ b) : room cells a = room cells b := by
  unfold room
  have h1 : a.all (fun w => !fullC cells w.Key) = b.all (fun w => !fullC cells w.Key) := by
    rw [Bool.eq_iff_iff, List.all_eq_true, List.all_eq_true]
    exact ⟨fun k w hw => k w ((h w).2 hw), fun k w hw => k w ((h w).1 hw)⟩
  have hk : ∀ k, k ∈ M2 a ↔ k ∈ M2 b := fun k => by unfold M2; simp only [List.mem_map]; exact ⟨fun ⟨w, hw, e⟩ => ⟨w, (h w).1 hw, e⟩, fun ⟨w, hw, e⟩ => ⟨w, (h w).2 hw, e⟩⟩
  have h2 : (roomKs cells a).length = (roomKs cells b).length := Nat.le_antisymm (As2 fun k hk2 => by rw [hk] at hk2; exact hk2) (As2 fun k hk2 => by rw [← hk] at hk2; exact hk2)
  rw [h1, h2]
def allB (n : Nat) (p : Nat → Bool) : Bool := (List.range n).all p
theorem AZ4 {n : Nat} {p : Nat → Bool} : allB n p = true ↔ ∀ i, i < n → p i = true := by unfold allB; simp
theorem AN8 {n i : Nat} {p : Nat → Bool} (hi : i < n) (h : p i = false) : allB n p = false := by
  cases e : allB n p with
  | false => rfl
  | true => rw [AZ4.1 e i hi] at h; cases h
def hasH (l : List E7) (n : Int) : Bool := l.any fun h => h.Txn == n
def hasT (l : List M1) (n : Int) : Bool := l.any fun t => t.Txn == n
def BM3 (l : List E7) (i : Nat) (n : Int) : Bool := match l[i - 1]? with
  | some g => !(decide (0 < i) && decide (n ≤ g.Txn))
  | none => true
def BM4 (l : List M1) (i : Nat) (n : Int) : Bool := match l[i - 1]? with
  | some g => !(decide (0 < i) && decide (n ≤ g.Txn))
  | none => true
def heldAt (s : G6) (i : Nat) : Bool := match s.Held[i]? with
  | none => true
  | some h => (((goodRec (hRec h) && !decide (s.Floor < h.Time)) && BM3 s.Held i h.Txn) && (s.Held.take i).all fun g => apart g h.Reads h.Writes) && h.Writes.all fun w => decide (lastTime s.Cells w.Key < h.Time)
def areHeld (s : G6) : Bool := allB s.Held.length (heldAt s) && (decide (s.Held.length ≤ 12) && room s.Cells (hWs s.Held))
def tFits (s : G6) (t : M1) : Bool := if t.Yes = true then within t.Time 1 s.Floor else t.Time == 0
def toldAt (s : G6) (i : Nat) : Bool := match s.Told[i]? with
  | none => true
  | some t => ((isTxnR t.Txn && tFits s t) && BM4 s.Told i t.Txn) && !hasH s.Held t.Txn
def goodState (s : G6) : Bool := ((((isTrue s.Floor && goodCells s.Cells) && areHeld s) && decide (s.Told.length ≤ 60)) && s.Cells.all fun c => decide (lastTime s.Cells c.Key ≤ s.Floor)) && allB s.Told.length (toldAt s)
structure GS (s : G6) : Prop where
  floor : 0 ≤ s.Floor ∧ s.Floor ≤ 100000
  cells : goodCells s.Cells = true
  good : ∀ h ∈ s.Held, goodRec (hRec h) = true ∧ h.Time ≤ s.Floor ∧ ∀ w ∈ h.Writes, lastTime s.Cells w.Key < h.Time
  hsort : s.Held.Pairwise fun a b => a.Txn < b.Txn
  apart : s.Held.Pairwise fun a b => apart a b.Reads b.Writes = true
  hlen : s.Held.length ≤ 12
  room : room s.Cells (hWs s.Held) = true
  tlen : s.Told.length ≤ 60
  last : ∀ c ∈ s.Cells, lastTime s.Cells c.Key ≤ s.Floor
  told : ∀ t ∈ s.Told, isTxnR t.Txn = true ∧ tFits s t = true ∧ hasH s.Held t.Txn = false
  tsort : s.Told.Pairwise fun a b => a.Txn < b.Txn
theorem BH9 {α : Type} {f : α → Int} {l : List α} (h : ∀ (i : Nat) (x y : α), 0 < i → l[i]? = some x → l[i - 1]? = some y → f y < f x) : l.Pairwise fun a b => f a < f b := by
  have key : ∀ (j i : Nat) (x y : α), i < j → l[j]? = some x → l[i]? = some y → f y < f x := by
    intro j
    induction j with
    | zero => intro i x y hi; omega
    | succ j ih =>
      intro i x y hi hx hy
      have hj := (List.getElem?_eq_some_iff.1 hx).1
      have hz := List.getElem?_eq_getElem (show j < l.length by omega)
      have h1 := h (j + 1) x _ qz8 hx hz
      rcases Nat.lt_or_ge i j with h2 | h2
      · have := ih i _ y h2 hz hy; omega
      · have : i = j := by omega
        subst this; rw [hz] at hy; injection hy with hy; subst hy; exact h1
  rw [List.pairwise_iff_getElem]
  intro i j hi hj hij
  exact key j i _ _ hij (List.getElem?_eq_getElem hj) (List.getElem?_eq_getElem hi)
theorem BU7 {l : List E7} {i : Nat} {n : Int} : BM3 l i n = true ↔ ∀ g, 0 < i → l[i - 1]? = some g → g.Txn < n := by
  unfold BM3
  cases h : l[i - 1]? with
  | none => simp
  | some g =>
    simp only [Bool.not_eq_true', Bool.and_eq_false_iff, decide_eq_false_iff_not]
    exact ⟨fun k y h0 e => by injection e with e; subst e; omega, fun k => if h0 : 0 < i then .inr (by have := k g h0 rfl; omega) else .inl h0⟩
theorem BU8 {l : List M1} {i : Nat} {n : Int} : BM4 l i n = true ↔ ∀ g, 0 < i → l[i - 1]? = some g → g.Txn < n := by
  unfold BM4
  cases h : l[i - 1]? with
  | none => simp
  | some g =>
    simp only [Bool.not_eq_true', Bool.and_eq_false_iff, decide_eq_false_iff_not]
    exact ⟨fun k y h0 e => by injection e with e; subst e; omega, fun k => if h0 : 0 < i then .inr (by have := k g h0 rfl; omega) else .inl h0⟩
theorem BU9 {α : Type} {p : α → α → Prop} {l : List α} : l.Pairwise p ↔ ∀ (i : Nat) (x : α), l[i]? = some x → ∀ y ∈ l.take i, p y x := by
  rw [List.pairwise_iff_getElem]
  constructor
  · intro h i x hx y hy
    obtain ⟨j, hj⟩ := List.getElem?_of_mem hy
    have hi := (List.getElem?_eq_some_iff.1 hx)
    have hjl := (List.getElem?_eq_some_iff.1 hj).1
    rw [H2] at hjl
    rw [List.getElem?_take_of_lt qz8] at hj
    have hj2 := (List.getElem?_eq_some_iff.1 hj)
    obtain ⟨hi1, hi2⟩ := hi
    obtain ⟨hj3, hj4⟩ := hj2
    have := h j i hj3 hi1 qz8
    rw [hi2, hj4] at this; exact this
  · intro h i j hi hj hij
    refine h j _ (List.getElem?_eq_getElem hj) _ (C6 (i := i) ?_)
    rw [List.getElem?_take_of_lt hij]; exact List.getElem?_eq_getElem hi
theorem AB7 {s : G6} : goodState s = true ↔ GS s := by
  unfold goodState areHeld
  simp only [Bool.and_eq_true, decide_eq_true_eq, AZ4, List.all_eq_true]
  constructor
  · rintro ⟨⟨⟨⟨⟨h1, h2⟩, h3, h4, h5⟩, h6⟩, h7⟩, h8⟩
    have hh : ∀ (i : Nat) (h : E7), s.Held[i]? = some h → goodRec (hRec h) = true ∧ h.Time ≤ s.Floor ∧ (∀ g, 0 < i → s.Held[i - 1]? = some g → g.Txn < h.Txn) ∧ (∀ g ∈ s.Held.take i, apart g h.Reads h.Writes = true) ∧ ∀ w ∈ h.Writes, lastTime s.Cells w.Key < h.Time := fun i h hi => by
      have := h3 i (List.getElem?_eq_some_iff.1 hi).1
      unfold heldAt at this
      rw [hi] at this
      simp only [Bool.and_eq_true, List.all_eq_true, decide_eq_true_eq, BU7, Bool.not_eq_true', decide_eq_false_iff_not] at this
      exact ⟨this.1.1.1.1, by omega, this.1.1.2, this.1.2, this.2⟩
    have ht : ∀ (i : Nat) (t : M1), s.Told[i]? = some t → isTxnR t.Txn = true ∧ tFits s t = true ∧ (∀ g, 0 < i → s.Told[i - 1]? = some g → g.Txn < t.Txn) ∧ hasH s.Held t.Txn = false := fun i t hi => by
      have := h8 i (List.getElem?_eq_some_iff.1 hi).1
      unfold toldAt at this
      rw [hi] at this
      simp only [Bool.and_eq_true, BU8, Bool.not_eq_true'] at this
      exact ⟨this.1.1.1, this.1.1.2, this.1.2, this.2⟩
    unfold isTrue within at h1
    simp only [Bool.and_eq_true, decide_eq_true_eq] at h1
    refine ⟨h1, h2, fun h hm => ?_, BH9 fun i x y h0 hx hy => (hh i x hx).2.2.1 y h0 hy, BU9.2 fun i x hx => (hh i x hx).2.2.2.1, h4, h5, h6, h7, fun t hm => ?_, BH9 fun i x y h0 hx hy => (ht i x hx).2.2.1 y h0 hy⟩
    · obtain ⟨i, hi⟩ := List.getElem?_of_mem hm
      have := hh i h hi
      exact ⟨this.1, this.2.1, this.2.2.2.2⟩
    · obtain ⟨i, hi⟩ := List.getElem?_of_mem hm
      have := ht i t hi
      exact ⟨this.1, this.2.1, this.2.2.2⟩
  · intro g
    have hch : ∀ {α : Type} {f : α → Int} {l : List α}, (l.Pairwise fun a b => f a < f b) → ∀ (i : Nat) (x y : α), 0 < i → l[i]? = some x → l[i - 1]? = some y → f y < f x := fun {α f l} hp i x y h0 hx hy => by
      obtain ⟨hx1, hx2⟩ := List.getElem?_eq_some_iff.1 hx
      obtain ⟨hy1, hy2⟩ := List.getElem?_eq_some_iff.1 hy
      have := List.pairwise_iff_getElem.1 hp (i - 1) i hy1 hx1 qz8
      rw [hx2, hy2] at this; exact this
    refine ⟨⟨⟨⟨⟨?_, g.cells⟩, fun i hi => ?_, g.hlen, g.room⟩, g.tlen⟩, g.last⟩, fun i hi => ?_⟩
    · unfold isTrue within; simp [g.floor]
    · unfold heldAt
      rw [List.getElem?_eq_getElem hi]
      have hx := List.getElem?_eq_getElem hi
      obtain ⟨g1, g2, g3⟩ := g.good _ (C6 hx)
      simp only [Bool.and_eq_true, List.all_eq_true, decide_eq_true_eq, BU7, Bool.not_eq_true', decide_eq_false_iff_not]
      exact ⟨⟨⟨⟨g1, by omega⟩, fun y h0 hy => hch g.hsort i _ y h0 hx hy⟩, fun y hy => BU9.1 g.apart i _ hx y hy⟩, g3⟩
    · unfold toldAt
      rw [List.getElem?_eq_getElem hi]
      have hx := List.getElem?_eq_getElem hi
      obtain ⟨g1, g2, g3⟩ := g.told _ (C6 hx)
      simp only [Bool.and_eq_true, BU8, Bool.not_eq_true']
      exact ⟨⟨⟨g1, g2⟩, fun y h0 hy => hch g.tsort i _ y h0 hx hy⟩, g3⟩
def insH (h : E7) : List E7 → List E7
  | [] => [h]
  | g :: l => if h.Txn < g.Txn then h :: g :: l else g :: insH h l
def insT (h : M1) : List M1 → List M1
  | [] => [h]
  | g :: l => if h.Txn < g.Txn then h :: g :: l else g :: insT h l
def lessH (l : List E7) (n : Int) : List E7 := l.filter fun h => h.Txn != n
def findH (l : List E7) (n : Int) : Option E7 := l.find? fun h => h.Txn == n
def findT (l : List M1) (n : Int) : Option M1 := l.find? fun t => t.Txn == n
def fits (s : G6) (rs : List Str) (ws : List A9) : Bool := (s.Held.all fun h => apart h rs ws) && (decide (s.Held.length < 12) && room s.Cells (hWs s.Held ++ ws))
def AH4 (s : G6) (r : L2) (fl : Int) (q : List C4) : G6 := ⟨fl, q, lessH s.Held r.Txn, insT ⟨r.Txn, r.Yes, r.Time⟩ s.Told⟩
def applyS (s : G6) (r : L2) : G6 × Bool :=
  if r.Kind = 4 then (⟨r.Time, s.Cells, s.Held, s.Told⟩, decide (s.Floor < r.Time))
  else if hasT s.Told r.Txn = true then (s, false)
  else if r.Kind = 1 then (⟨r.Time, s.Cells, insH (hOf r) s.Held, s.Told⟩, (!hasH s.Held r.Txn && decide (s.Floor < r.Time)) && fits s r.Reads r.Writes)
  else if r.Yes = true then (match findH s.Held r.Txn with
    | none => (s, false)
    | some h => if r.Time < h.Time then (s, false) else if (putP s.Cells h.Writes r.Time).2 = true then (AH4 s r (if s.Floor < r.Time then r.Time else s.Floor) (putP s.Cells h.Writes r.Time).1, true) else (s, false))
  else (AH4 s r s.Floor s.Cells, true)
def d6 : G6 := ⟨0, [], [], []⟩
def r4 (s : G6) (r : L2) : G6 := if (applyS s r).2 = true then (applyS s r).1 else s
def stFrom (s : G6) (l : List L2) : G6 := l.foldl r4 s
def didFrom (s : G6) : List L2 → List Bool
  | [] => []
  | r :: l => (applyS s r).2 :: didFrom (r4 s r) l
theorem AT6 (h : E7) : ∀ l, (insH h l).Perm (h :: l)
  | [] => List.Perm.refl _
  | g :: l => by
    unfold insH
    split
    · exact List.Perm.refl _
    · exact (List.Perm.cons g (AT6 h l)).trans (List.Perm.swap h g l)
theorem As3 (h : M1) : ∀ l, (insT h l).Perm (h :: l)
  | [] => List.Perm.refl _
  | g :: l => by
    unfold insT
    split
    · exact List.Perm.refl _
    · exact (List.Perm.cons g (As3 h l)).trans (List.Perm.swap h g l)
theorem AK6 {h x : E7} {l : List E7} : x ∈ insH h l ↔ x = h ∨ x ∈ l := by rw [(AT6 h l).mem_iff, List.mem_cons]
theorem Bh2 {h x : M1} {l : List M1} : x ∈ insT h l ↔ x = h ∨ x ∈ l := by rw [(As3 h l).mem_iff, List.mem_cons]
theorem As4 {h : E7} : ∀ {l : List E7}, (l.Pairwise fun a b => a.Txn < b.Txn) → (∀ g ∈ l, g.Txn ≠ h.Txn) → (insH h l).Pairwise fun a b => a.Txn < b.Txn
  | [], _, _ => by unfold insH; simp
  | g :: l, hs, hn => by
    obtain ⟨h1, h2⟩ := List.pairwise_cons.1 hs
    have hg := hn g List.mem_cons_self
    unfold insH
    split
    · rename_i hlt
      refine List.pairwise_cons.2 ⟨fun y hy => ?_, hs⟩
      rcases List.mem_cons.1 hy with rfl | hy
      · exact hlt
      · have := h1 y hy; omega
    · refine List.pairwise_cons.2 ⟨fun y hy => ?_, As4 h2 fun y hy => hn y (List.mem_cons_of_mem _ hy)⟩
      rcases AK6.1 hy with rfl | hy
      · omega
      · exact h1 y hy
theorem As5 {h : M1} : ∀ {l : List M1}, (l.Pairwise fun a b => a.Txn < b.Txn) → (∀ g ∈ l, g.Txn ≠ h.Txn) → (insT h l).Pairwise fun a b => a.Txn < b.Txn
  | [], _, _ => by unfold insT; simp
  | g :: l, hs, hn => by
    obtain ⟨h1, h2⟩ := List.pairwise_cons.1 hs
    have hg := hn g List.mem_cons_self
    unfold insT
    split
    · rename_i hlt
      refine List.pairwise_cons.2 ⟨fun y hy => ?_, hs⟩
      rcases List.mem_cons.1 hy with rfl | hy
      · exact hlt
      · have := h1 y hy; omega
    · refine List.pairwise_cons.2 ⟨fun y hy => ?_, As5 h2 fun y hy => hn y (List.mem_cons_of_mem _ hy)⟩
      rcases Bh2.1 hy with rfl | hy
      · omega
      · exact h1 y hy
theorem hasH_iff {l : List E7} {n : Int} : hasH l n = true ↔ ∃ h ∈ l, h.Txn = n := by unfold hasH; simp
theorem AK7 {l : List E7} {n : Int} : hasH l n = false ↔ ∀ h ∈ l, h.Txn ≠ n := by unfold hasH; simp
theorem hasT_iff {l : List M1} {n : Int} : hasT l n = true ↔ ∃ h ∈ l, h.Txn = n := by unfold hasT; simp
theorem BE0 {l : List M1} {n : Int} : hasT l n = false ↔ ∀ h ∈ l, h.Txn ≠ n := by unfold hasT; simp
theorem AE6 {l : List E7} {n : Int} {h : E7} : h ∈ lessH l n ↔ h ∈ l ∧ h.Txn ≠ n := by unfold lessH; simp
theorem BI0 : ∀ {l : List M1} {a : Int}, (l.Pairwise fun a b => a.Txn < b.Txn) → (∀ t ∈ l, a < t.Txn ∧ t.Txn ≤ 60) → l.length ≤ (60 - a).toNat
  | [], _, _, _ => Nat.zero_le _
  | t :: l, a, hs, h => by
    obtain ⟨h1, h2⟩ := List.pairwise_cons.1 hs
    have ht := h t List.mem_cons_self
    have := BI0 (a := t.Txn) h2 fun u hu => ⟨h1 u hu, (h u (List.mem_cons_of_mem _ hu)).2⟩
    rw [H6]; omega
theorem By8 {n : Int} : isTxnR n = true ↔ 1 ≤ n ∧ n ≤ 60 := by unfold isTxnR within; simp
theorem Ah0 {a b : List C4} {k : Str} (h : findC a k = findC b k) : lastTime a k = lastTime b k := by unfold lastTime; rw [h]
theorem Bo6 {a b : List C4} {k : Str} (h : findC a k = findC b k) : fullC a k = fullC b k := by unfold fullC; rw [h]
theorem BV0 {l : List C4} {k : Str} {c : C4} (h : findC l k = some c) : c ∈ l ∧ c.Key = k := by
  unfold findC at h
  exact ⟨List.mem_of_find?_eq_some h, by simpa using List.find?_some h⟩
theorem Bu8 {s : G6} (g : GS s) (k : Str) : lastTime s.Cells k ≤ s.Floor := by
  have h0 := g.floor.1
  cases h : findC s.Cells k with
  | none => unfold lastTime; rw [h]; exact h0
  | some c =>
    obtain ⟨h1, h2⟩ := BV0 h
    rw [← h2]; exact g.last c h1
theorem Am0 {s s' : G6} {t : M1} (h : s.Floor ≤ s'.Floor) (ht : tFits s t = true) : tFits s' t = true := by
  unfold tFits within at *
  split
  · rename_i hy; rw [if_pos hy] at ht; simp only [Bool.and_eq_true, decide_eq_true_eq] at *; omega
  · rename_i hy; rw [if_neg hy] at ht; exact ht
theorem gs_floor {s : G6} (g : GS s) {t : Int} (h1 : s.Floor ≤ t) (h2 : t ≤ 100000) : GS ⟨t, s.Cells, s.Held, s.Told⟩ := by
  have h0 := g.floor.1
  exact ⟨⟨by dsimp only; omega, h2⟩, g.cells, fun h hm => ⟨(g.good h hm).1, by have := (g.good h hm).2.1; dsimp only; omega, (g.good h hm).2.2⟩, g.hsort, g.apart, g.hlen, g.room, g.tlen, fun c hc => by have := g.last c hc; dsimp only; omega, fun u hu => ⟨(g.told u hu).1, Am0 h1 (g.told u hu).2.1, (g.told u hu).2.2⟩, g.tsort⟩
theorem CG0 {r : L2} (h : goodRec r = true) (hk : r.Kind = 1) : r.Yes = false := by
  unfold goodRec at h
  rw [if_pos hk] at h
  unfold good1 at h
  simp only [Bool.and_eq_true, Bool.not_eq_true'] at h
  exact h.2
theorem Bh3 {r : L2} (h : goodRec r = true) : 0 ≤ r.Time ∧ r.Time ≤ 100000 := (goodR h).time
theorem hRec_hOf {r : L2} (h : goodRec r = true) (hk : r.Kind = 1) : hRec (hOf r) = r := by
  have := CG0 h hk
  unfold hRec hOf
  cases r; simp_all
theorem hWs_ins {h : E7} {l : List E7} {w : A9} : w ∈ hWs (insH h l) ↔ w ∈ hWs l ++ h.Writes := by
  rw [AQ2, List.mem_append, AQ2]
  constructor
  · rintro ⟨x, hx, hw⟩
    rcases AK6.1 hx with rfl | hx
    · exact Or.inr hw
    · exact Or.inl ⟨x, hx, hw⟩
  · rintro (⟨x, hx, hw⟩ | hw)
    · exact ⟨x, AK6.2 (Or.inr hx), hw⟩
    · exact ⟨h, AK6.2 (Or.inl rfl), hw⟩
theorem fits_iff {s : G6} {rs : List Str} {ws : List A9} : fits s rs ws = true ↔ (∀ h ∈ s.Held, apart h rs ws = true) ∧ s.Held.length < 12 ∧ room s.Cells (hWs s.Held ++ ws) = true := by
  unfold fits; simp only [Bool.and_eq_true, List.all_eq_true, decide_eq_true_eq]
theorem By9 {s : G6} (g : GS s) {r : L2} (hr : goodRec r = true) (hk : r.Kind = 1) (hh : hasH s.Held r.Txn = false) (hT : hasT s.Told r.Txn = false) (ht : s.Floor < r.Time) (hf : fits s r.Reads r.Writes = true) :
    GS ⟨r.Time, s.Cells, insH (hOf r) s.Held, s.Told⟩ := by
  obtain ⟨f1, f2, f3⟩ := fits_iff.1 hf
  have htm := Bh3 hr
  have h0 := g.floor.1
  have hnh := AK7.1 hh
  have hnt := BE0.1 hT
  refine ⟨⟨htm.1, htm.2⟩, g.cells, fun h hm => ?_, As4 g.hsort hnh, ?_, ?_, ?_, g.tlen, fun c hc => ?_, fun t hm => ⟨(g.told t hm).1, Am0 (by dsimp only; omega) (g.told t hm).2.1, ?_⟩, g.tsort⟩
  · rcases AK6.1 hm with rfl | hm
    · refine ⟨by rw [hRec_hOf hr hk]; exact hr, Int.le_refl _, fun w hw => ?_⟩
      have := Bu8 g w.Key
      show lastTime s.Cells w.Key < r.Time
      omega
    · obtain ⟨g1, g2, g3⟩ := g.good h hm
      exact ⟨g1, by dsimp only; omega, g3⟩
  · refine ((AT6 (hOf r) s.Held).pairwise_iff (fun {x y} hxy => As1 hxy)).2 (List.pairwise_cons.2 ⟨fun y hy => As1 (f1 y hy), g.apart⟩)
  · rw [(AT6 _ _).length_eq, H6]; omega
  · rw [BU6 fun w => hWs_ins]; exact f3
  · have := g.last c hc; dsimp only; omega
  · refine AK7.2 fun h hm e => ?_
    rcases AK6.1 hm with rfl | hm
    · exact hnt t ‹_› e.symm
    · exact AK7.1 (g.told t ‹_›).2.2 h hm e
theorem BI1 {s : G6} (g : GS s) {n fl : Int} {q : List C4} {t : M1} (hn : t.Txn = n) (hx : isTxnR n = true) (hT : hasT s.Told n = false) (hfl : s.Floor ≤ fl ∧ fl ≤ 100000) (hq : goodCells q = true) (hlast : ∀ c ∈ q, lastTime q c.Key ≤ fl)
    (hkeep : ∀ k ∈ lessH s.Held n, ∀ w ∈ k.Writes, findC q w.Key = findC s.Cells w.Key) (hkeys : ∀ k ∈ g7 q, k ∈ g7 s.Cells ∨ k ∈ M2 (hWs s.Held)) (htf : (if t.Yes = true then within t.Time 1 fl else t.Time == 0) = true) : GS ⟨fl, q, lessH s.Held n, insT t s.Told⟩ := by
  have h0 := g.floor.1
  have hnt := BE0.1 hT
  have hsub : (lessH s.Held n).Sublist s.Held := List.filter_sublist
  have htl : ∀ u ∈ insT t s.Told, isTxnR u.Txn = true ∧ tFits ⟨fl, q, lessH s.Held n, insT t s.Told⟩ u = true ∧ hasH (lessH s.Held n) u.Txn = false := fun u hu => by
    rcases Bh2.1 hu with rfl | hu
    · exact ⟨hn ▸ hx, htf, AK7.2 fun h hm e => (AE6.1 hm).2 (e.trans hn)⟩
    · obtain ⟨a, b, c⟩ := g.told u hu
      exact ⟨a, Am0 hfl.1 b, AK7.2 fun h hm e => AK7.1 c h (AE6.1 hm).1 e⟩
  have hts := As5 (h := t) g.tsort fun u hu => by rw [hn]; exact hnt u hu
  refine ⟨⟨by dsimp only; omega, hfl.2⟩, hq, fun h hm => ?_, g.hsort.sublist hsub, g.apart.sublist hsub, Nat.le_trans hsub.length_le g.hlen, ?_, ?_, hlast, htl, hts⟩
  · obtain ⟨g1, g2, g3⟩ := g.good h (AE6.1 hm).1
    exact ⟨g1, by dsimp only; omega, fun w hw => by rw [show lastTime q w.Key = _ from Ah0 (hkeep h hm w hw)]; exact g3 w hw⟩
  · have hr := g.room
    unfold room at hr ⊢
    simp only [Bool.and_eq_true, List.all_eq_true, decide_eq_true_eq] at hr ⊢
    refine ⟨fun w hw => ?_, Nat.le_trans (As2 fun k hk => ?_) hr.2⟩
    · obtain ⟨h, hm, hwh⟩ := AQ2.1 hw
      rw [Bo6 (hkeep h hm w hwh)]
      exact hr.1 w (AQ2.2 ⟨h, (AE6.1 hm).1, hwh⟩)
    · rcases hk with hk | hk
      · exact hkeys k hk
      · refine Or.inr ?_
        unfold M2 at hk ⊢
        obtain ⟨w, hw, e⟩ := List.mem_map.1 hk
        obtain ⟨h, hm, hwh⟩ := AQ2.1 hw
        exact List.mem_map.2 ⟨w, AQ2.2 ⟨h, (AE6.1 hm).1, hwh⟩, e⟩
  · have := BI0 (a := 0) hts fun u hu => by have := By8.1 (htl u hu).1; omega
    exact this
theorem put_keys {l q : List C4} {w : List A9} {t : Int} (hw : (w.map A9.Key).Nodup) (hl : adj cLess l = true) (hq : adj cLess q = true) (h : putAll l w t = some q) : ∀ k ∈ g7 q, k ∈ g7 l ∨ k ∈ M2 w := fun k hk => by
  obtain ⟨h1, h2⟩ := Al9 hw hl h
  by_cases hm : k ∈ w.map A9.Key
  · exact Or.inr hm
  · left
    unfold g7 at hk
    obtain ⟨c, hc, e⟩ := List.mem_map.1 hk
    obtain ⟨i, hi⟩ := List.getElem?_of_mem hc
    have h3 := findC_at hq hi
    rw [e, h2 k hm] at h3
    obtain ⟨h4, h5⟩ := BV0 h3
    exact List.mem_map.2 ⟨c, h4, e⟩
theorem put_last {l q : List C4} {w : List A9} {t : Int} (hw : (w.map A9.Key).Nodup) (hl : adj cLess l = true) (h : putAll l w t = some q) (k : Str) : lastTime q k = t ∨ lastTime q k = lastTime l k := by
  obtain ⟨h1, h2⟩ := Al9 hw hl h
  by_cases hm : k ∈ w.map A9.Key
  · obtain ⟨x, hx, e⟩ := List.mem_map.1 hm
    have := h1 x hx
    rw [e] at this
    left; unfold lastTime lastV; rw [this]; simp
  · right; exact Ah0 (h2 k hm)
theorem AW1 {l : List E7} {n : Int} {h : E7} (e : findH l n = some h) : h ∈ l ∧ h.Txn = n := by
  unfold findH at e
  exact ⟨List.mem_of_find?_eq_some e, by simpa using List.find?_some e⟩
theorem BI2 {l : List E7} {n : Int} : findH l n = none ↔ hasH l n = false := by
  unfold findH hasH; rw [List.find?_eq_none, List.any_eq_false]
theorem Bo7 {s : G6} (g : GS s) {h : E7} (hm : h ∈ s.Held) : goodWrites h.Writes = true := by
  have := (g.good h hm).1
  unfold goodRec hRec at this
  rw [if_pos rfl] at this
  unfold good1 at this
  simp only [Bool.and_eq_true] at this
  exact this.1.1.2
theorem Bz0 {s : G6} (g : GS s) {h k : E7} (hh : h ∈ s.Held) (hk : k ∈ s.Held) (hne : k.Txn ≠ h.Txn) : apart k h.Reads h.Writes = true := by
  obtain ⟨i, hi⟩ := List.getElem?_of_mem hh
  obtain ⟨j, hj⟩ := List.getElem?_of_mem hk
  obtain ⟨i1, i2⟩ := List.getElem?_eq_some_iff.1 hi
  obtain ⟨j1, j2⟩ := List.getElem?_eq_some_iff.1 hj
  have hp := List.pairwise_iff_getElem.1 g.apart
  rcases Nat.lt_trichotomy i j with h1 | h1 | h1
  · have := hp i j i1 j1 h1
    rw [i2, j2] at this; exact As1 this
  · subst h1; rw [hi] at hj; injection hj with hj; exact (hne (by rw [hj])).elim
  · have := hp j i j1 i1 h1
    rw [i2, j2] at this; exact this
theorem gs_yes {s : G6} (g : GS s) {h : E7} (hm : h ∈ s.Held) {t : Int} (hx : isTxnR h.Txn = true) (hT : hasT s.Told h.Txn = false) (ht : h.Time ≤ t ∧ t ≤ 100000) {q : List C4} (hp : putAll s.Cells h.Writes t = some q) (hq : goodCells q = true) :
    GS ⟨if s.Floor < t then t else s.Floor, q, lessH s.Held h.Txn, insT ⟨h.Txn, true, t⟩ s.Told⟩ := by
  have hw := Bh1 (Bo7 g hm)
  have ha := (i4 g.cells).2.1
  have hqa := (i4 hq).2.1
  have h0 := g.floor
  have ht1 : 1 ≤ h.Time := by
    have := (g.good h hm).1
    unfold goodRec hRec at this
    rw [if_pos rfl] at this
    unfold good1 z8 within at this
    simp only [Bool.and_eq_true, decide_eq_true_eq] at this
    omega
  refine BI1 g rfl hx hT (by split <;> omega) hq (fun c hc => ?_) (fun k hk w hwk => ?_) (fun k hk => ?_) ?_
  · rcases put_last hw ha hp c.Key with e | e
    · rw [e]; split <;> omega
    · rw [e]; have := Bu8 g c.Key; split <;> omega
  · obtain ⟨k1, k2⟩ := AE6.1 hk
    refine (Al9 hw ha hp).2 _ fun hmem => ?_
    obtain ⟨v, hv, e⟩ := List.mem_map.1 hmem
    exact ((AT5.1 (Bz0 g hm k1 k2)).2 v hv).1 w hwk e.symm
  · rcases put_keys hw ha hqa hp k hk with e | e
    · exact Or.inl e
    · refine Or.inr ?_
      unfold M2 at e ⊢
      obtain ⟨w, hw2, e⟩ := List.mem_map.1 e
      exact List.mem_map.2 ⟨w, AQ2.2 ⟨h, hm, hw2⟩, e⟩
  · rw [if_pos rfl]; unfold within; simp only [Bool.and_eq_true, decide_eq_true_eq]; split <;> omega
theorem good2_of {r : L2} (h : goodRec r = true) (h4 : r.Kind ≠ 4) (h1 : r.Kind ≠ 1) : good2 r = true := by
  unfold goodRec at h
  rw [if_neg h1] at h
  split at h
  · exact h
  · cases h
theorem BP3 {l : List C4} {w : List A9} {t : Int} (h : (putP l w t).2 = true) : putAll l w t = some (putP l w t).1 ∧ goodCells (putP l w t).1 = true := by
  unfold putP at h ⊢
  cases hp : putAll l w t with
  | none => rw [hp] at h; cases h
  | some q => rw [hp] at h; dsimp only at h ⊢; exact ⟨rfl, by rw [i3]; exact h⟩
theorem gs_apply {s : G6} (g : GS s) {r : L2} (hr : goodRec r = true) (h : (applyS s r).2 = true) : GS (applyS s r).1 := by
  have htm := Bh3 hr
  unfold applyS at h ⊢
  by_cases h4 : r.Kind = 4
  · rw [if_pos h4] at h ⊢
    exact gs_floor g (by have := of_decide_eq_true h; omega) htm.2
  · rw [if_neg h4] at h ⊢
    by_cases hT : hasT s.Told r.Txn = true
    · rw [if_pos hT] at h; cases h
    · rw [if_neg hT] at h ⊢
      rw [Bool.not_eq_true] at hT
      by_cases h1 : r.Kind = 1
      · rw [if_pos h1] at h ⊢
        simp only [Bool.and_eq_true, Bool.not_eq_true', decide_eq_true_eq] at h
        exact By9 g hr h1 h.1.1 hT h.1.2 h.2
      · rw [if_neg h1] at h ⊢
        have h2 := good2_of hr h4 h1
        unfold good2 at h2
        simp only [Bool.and_eq_true, Bool.or_eq_true, Bool.not_eq_true', beq_iff_eq] at h2
        obtain ⟨⟨_, hx⟩, h3⟩ := h2
        by_cases hy : r.Yes = true
        · rw [if_pos hy] at h ⊢
          cases hf : findH s.Held r.Txn with
          | none => rw [hf] at h; cases h
          | some k =>
            rw [hf] at h
            dsimp only at h ⊢
            by_cases hlt : r.Time < k.Time
            · rw [if_pos hlt] at h; cases h
            · rw [if_neg hlt] at h ⊢
              by_cases hp : (putP s.Cells k.Writes r.Time).2 = true
              · rw [if_pos hp]
                obtain ⟨p1, p2⟩ := BP3 hp
                obtain ⟨k1, k2⟩ := AW1 hf
                have := gs_yes g k1 (t := r.Time) (by rw [k2]; exact hx) (by rw [k2]; exact hT) ⟨by omega, htm.2⟩ p1 p2
                rw [k2] at this
                unfold AH4; rw [hy]; exact this
              · rw [if_neg hp] at h; cases h
        · rw [if_neg hy]
          rw [Bool.not_eq_true] at hy
          rw [hy] at h3
          simp only [Bool.false_eq_true, false_and, true_and, false_or] at h3
          have h0 := g.floor
          unfold AH4
          refine BI1 g rfl hx hT ⟨Int.le_refl _, h0.2⟩ g.cells g.last (fun _ _ _ _ => rfl) (fun k hk => Or.inl hk) ?_
          rw [hy, h3]; rfl
theorem Ax6 : GS d6 where
  floor := by decide
  cells := by decide
  good := fun h hm => by cases hm
  hsort := List.Pairwise.nil
  apart := List.Pairwise.nil
  hlen := by decide
  room := by
    unfold room roomKs
    rw [Bool.and_eq_true]
    refine ⟨rfl, decide_eq_true ?_⟩
    exact Nat.le_trans (Ac6 _) D0
  tlen := by decide
  last := fun c hc => by cases hc
  told := fun t ht => by cases ht
  tsort := List.Pairwise.nil
theorem gs_step {s : G6} (g : GS s) {r : L2} (hr : goodRec r = true) : GS (r4 s r) := by
  unfold r4
  split
  · exact gs_apply g hr ‹_›
  · exact g
theorem Bu9 : ∀ {l : List L2} {s : G6}, GS s → (∀ r ∈ l, goodRec r = true) → GS (stFrom s l)
  | [], s, g, _ => g
  | r :: l, s, g, h => by
    show GS (stFrom (r4 s r) l)
    exact Bu9 (gs_step g (h r List.mem_cons_self)) fun x hx => h x (List.mem_cons_of_mem _ hx)
def settled (s : G6) : Int := s.Held.foldl (fun o h => min o (h.Time - 1)) s.Floor
structure Ax8 (s s' : G6) : Prop where
  floor : s.Floor ≤ s'.Floor
  told : ∀ t ∈ s.Told, t ∈ s'.Told
  tlen : s.Told.length ≤ s'.Told.length
  settled : settled s ≤ settled s'
  cells : ∀ a, a ≤ M.settled s → Bw4 s'.Cells a = Bw4 s.Cells a
theorem Ax8.refl (s : G6) : Ax8 s s := ⟨Int.le_refl _, fun _ h => h, Nat.le_refl _, Int.le_refl _, fun _ _ => rfl⟩
theorem Ax8.trans {a b c : G6} (h : Ax8 a b) (k : Ax8 b c) : Ax8 a c :=
  ⟨Int.le_trans h.floor k.floor, fun t ht => k.told t (h.told t ht), Nat.le_trans h.tlen k.tlen, Int.le_trans h.settled k.settled, fun x hx => (k.cells x (Int.le_trans hx h.settled)).trans (h.cells x hx)⟩
def keyD : List Str := [[97], [98], [99], [109], [110], [122], [114, 47, 49], [105, 47, 120, 47, 49]]
def valD : List Str := [[], [49], [55], [49, 48], [45, 51], [120], [97, 44, 98, 95, 99]]
def keyS : List Str := [[97], [98], [99], [105, 47, 120, 47, 49], [109], [110], [114, 47, 49], [122]]
theorem o7 {k : Str} (h : k ∈ keyD) : goodKey k = true ∧ k.length ≤ 5 := by
  have : ∀ k ∈ keyD, goodKey k = true ∧ k.length ≤ 5 := by decide
  exact this k h
theorem CG1 {k : Str} (h : k ∈ keyS) : goodKey k = true ∧ k.length ≤ 5 := by
  have : ∀ k ∈ keyS, goodKey k = true ∧ k.length ≤ 5 := by decide
  exact this k h
theorem keyS_srt : n7 keyS := by unfold n7; decide
def logOk (t : Int) : Int → List J4 → Bool
  | _, [] => true
  | p, e :: l => (within e.Term p t && goodRec e.Rec) && logOk t e.Term l
def goodRep (r : F0) (t : Int) : Bool := (decide ((r.Log.length : Int) ≤ 60) && within r.Sure 0 r.Log.length) && logOk t 1 r.Log
def AF7 (n : Int) : Bool := n == 3 || n == 5
def isRep (g : TGroup) (r : Int) : Bool := within r 0 ((g.Reps.length : Int) - 1)
def repAt (g : TGroup) (r : Int) : F0 := (g.Reps[r.toNat]?).getD ⟨false, [], 0⟩
def goodGroup (g : TGroup) : Bool := ((AF7 g.Reps.length && within g.Term 0 200) && (g.Lead == -1 || (isRep g g.Lead && (repAt g g.Lead).Up))) && g.Reps.all fun r => goodRep r g.Term
def zGroup : TGroup := ⟨[], 0, 0⟩
structure GR (r : F0) (t : Int) : Prop where
  len : r.Log.length ≤ 60
  sure : 0 ≤ r.Sure ∧ r.Sure ≤ r.Log.length
  ents : ∀ e ∈ r.Log, 1 ≤ e.Term ∧ e.Term ≤ t ∧ goodRec e.Rec = true
  sorted : r.Log.Pairwise fun a b => a.Term ≤ b.Term
structure GG (g : TGroup) : Prop where
  many : g.Reps.length = 3 ∨ g.Reps.length = 5
  term : 0 ≤ g.Term ∧ g.Term ≤ 200
  lead : g.Lead = -1 ∨ (0 ≤ g.Lead ∧ g.Lead < g.Reps.length ∧ (repAt g g.Lead).Up = true)
  reps : ∀ r ∈ g.Reps, GR r g.Term
theorem BV1 {t : Int} : ∀ {l : List J4} {p : Int}, logOk t p l = true ↔ (∀ e ∈ l, p ≤ e.Term ∧ e.Term ≤ t ∧ goodRec e.Rec = true) ∧ l.Pairwise fun a b => a.Term ≤ b.Term
  | [], p => by simp [logOk]
  | e :: l, p => by
    unfold logOk within
    rw [Bool.and_eq_true, Bool.and_eq_true, Bool.and_eq_true, decide_eq_true_eq, decide_eq_true_eq, BV1, List.pairwise_cons]
    constructor
    · rintro ⟨⟨⟨h1, h2⟩, h3⟩, h4, h5⟩
      refine ⟨fun x hx => ?_, fun x hx => (h4 x hx).1, h5⟩
      rcases List.mem_cons.1 hx with rfl | hx
      · exact ⟨h1, h2, h3⟩
      · have := h4 x hx; exact ⟨by omega, this.2⟩
    · rintro ⟨h1, h2, h3⟩
      have h0 := h1 e List.mem_cons_self
      exact ⟨⟨⟨h0.1, h0.2.1⟩, h0.2.2⟩, fun x hx => ⟨h2 x hx, (h1 x (List.mem_cons_of_mem _ hx)).2⟩, h3⟩
theorem Bo8 {r : F0} {t : Int} : goodRep r t = true ↔ GR r t := by
  unfold goodRep within
  simp only [Bool.and_eq_true, decide_eq_true_eq, BV1]
  constructor
  · rintro ⟨⟨h1, h2, h3⟩, h4, h5⟩; exact ⟨by omega, ⟨h2, h3⟩, h4, h5⟩
  · rintro ⟨h1, ⟨h2, h3⟩, h4, h5⟩; exact ⟨⟨by omega, h2, h3⟩, h4, h5⟩
theorem AT7 {g : TGroup} {r : Int} : isRep g r = true ↔ 0 ≤ r ∧ r < g.Reps.length := by
  unfold isRep within; simp only [Bool.and_eq_true, decide_eq_true_eq]; omega
theorem r8 {g : TGroup} : goodGroup g = true ↔ GG g := by
  unfold goodGroup AF7 within
  simp only [Bool.and_eq_true, Bool.or_eq_true, decide_eq_true_eq, beq_iff_eq, List.all_eq_true, Bo8, AT7]
  constructor
  · rintro ⟨⟨⟨h1, h2⟩, h3⟩, h4⟩
    refine ⟨by omega, h2, ?_, h4⟩
    rcases h3 with h | ⟨⟨h, k⟩, l⟩
    · exact .inl h
    · exact .inr ⟨h, k, l⟩
  · rintro ⟨h1, h2, h3, h4⟩
    refine ⟨⟨⟨by omega, h2⟩, ?_⟩, h4⟩
    rcases h3 with h | ⟨h, k, l⟩
    · exact .inl h
    · exact .inr ⟨⟨h, k⟩, l⟩
theorem c0 {g : TGroup} {r : Int} (h : 0 ≤ r ∧ r < g.Reps.length) : g.Reps[r.toNat]? = some (repAt g r) := by
  unfold repAt
  rw [List.getElem?_eq_getElem (show r.toNat < g.Reps.length by omega)]; rfl
theorem repAt_of {g : TGroup} {r : Int} {x : F0} (h : g.Reps[r.toNat]? = some x) : repAt g r = x := by unfold repAt; rw [h]; rfl
theorem f7 {g : TGroup} {r : Int} (h : 0 ≤ r ∧ r < g.Reps.length) : repAt g r ∈ g.Reps := C6 (c0 h)
def setRep (g : TGroup) (r : Int) (x : F0) : TGroup := ⟨g.Reps.set r.toNat x, g.Term, g.Lead⟩
def isUp (g : TGroup) (r : Int) (up : Bool) : Bool := (goodGroup g && isRep g r) && ((repAt g r).Up == up)
def crashR (g : TGroup) (r : Int) : TGroup × Bool :=
  if isUp g r true = true then (⟨g.Reps.set r.toNat ⟨false, (repAt g r).Log, (repAt g r).Sure⟩, g.Term, if g.Lead = r then -1 else g.Lead⟩, true) else (zGroup, false)
def startR (g : TGroup) (r : Int) : TGroup × Bool :=
  if isUp g r false = true then (⟨g.Reps.set r.toNat ⟨true, (repAt g r).Log, (repAt g r).Sure⟩, g.Term, g.Lead⟩, true) else (zGroup, false)
def v9 (l : List J4) : Int := match l.getLast? with | some e => e.Term | none => 0
def AR4 (a b : List J4) : Bool := decide (v9 b < v9 a) || (v9 a == v9 b && decide (b.length < a.length))
def Av6 (g : TGroup) (p : F0 → Bool) : Bool := decide ((g.Reps.length : Int) < 2 * ((g.Reps.filter p).length : Int))
def electR (g : TGroup) (r : Int) : TGroup × Bool :=
  if (isUp g r true && !(g.Term == 200)) = true ∧ Av6 g (fun x => x.Up && !AR4 x.Log (repAt g r).Log) = true then (⟨g.Reps, g.Term + 1, r⟩, true) else (zGroup, false)
def hasLead (g : TGroup) : Bool := goodGroup g && decide (0 ≤ g.Lead)
def e6 (g : TGroup) (r : L2) : TGroup × Bool :=
  if (hasLead g && goodRec r) = true ∧ (repAt g g.Lead).Log.length < 60 then (setRep g g.Lead ⟨(repAt g g.Lead).Up, (repAt g g.Lead).Log ++ [⟨g.Term, r⟩], (repAt g g.Lead).Sure⟩, true) else (zGroup, false)
def j5 (g : TGroup) (r : Int) : TGroup × Bool :=
  if (isUp g r true && decide (0 ≤ g.Lead)) = true ∧ g.Lead ≠ r then (setRep g r ⟨true, (repAt g g.Lead).Log, min ((repAt g g.Lead).Log.length : Int) (max (repAt g r).Sure (repAt g g.Lead).Sure)⟩, true) else (zGroup, false)
def begins (a b : List J4) (n : Nat) : Bool := decide (n ≤ a.length ∧ n ≤ b.length ∧ a.take n = b.take n)
def AO8 (g : TGroup) (n : Nat) : Bool := decide ((((repAt g g.Lead).Log[n - 1]?).map J4.Term) = some g.Term) && Av6 g fun x => begins x.Log (repAt g g.Lead).Log n
def findDown (p : Nat → Bool) (lo : Nat) : Nat → Option Nat
  | 0 => none
  | n + 1 => if n + 1 ≤ lo then none else if p (n + 1) = true then some (n + 1) else findDown p lo n
def o5 (g : TGroup) : TGroup × Bool :=
  if hasLead g = true then (match findDown (AO8 g) (repAt g g.Lead).Sure.toNat (repAt g g.Lead).Log.length with
    | some n => (setRep g g.Lead ⟨(repAt g g.Lead).Up, (repAt g g.Lead).Log, (n : Int)⟩, true)
    | none => (g, true)) else (zGroup, false)
theorem Ao4 {p : Nat → Bool} {lo : Nat} : ∀ {k n : Nat}, findDown p lo k = some n → lo < n ∧ n ≤ k ∧ p n = true
  | 0, n, h => by cases h
  | k + 1, n, h => by
    unfold findDown at h
    split at h
    · cases h
    · split at h
      · injection h with h; subst h; exact ⟨by omega, Nat.le_refl _, ‹_›⟩
      · have := Ao4 h; exact ⟨this.1, by omega, this.2.2⟩
theorem AE7 {g : TGroup} {r : Int} {up : Bool} : isUp g r up = true ↔ GG g ∧ (0 ≤ r ∧ r < g.Reps.length) ∧ (repAt g r).Up = up := by
  unfold isUp
  rw [Bool.and_eq_true, Bool.and_eq_true, r8, AT7, beq_iff_eq]
  constructor
  · rintro ⟨⟨a, b⟩, c⟩; exact ⟨a, b, c⟩
  · rintro ⟨a, b, c⟩; exact ⟨⟨a, b⟩, c⟩
theorem AI5 {g : TGroup} : hasLead g = true ↔ GG g ∧ 0 ≤ g.Lead ∧ g.Lead < g.Reps.length ∧ (repAt g g.Lead).Up = true := by
  unfold hasLead
  rw [Bool.and_eq_true, r8, decide_eq_true_eq]
  constructor
  · rintro ⟨a, b⟩
    rcases a.lead with h | ⟨h1, h2, h3⟩
    · omega
    · exact ⟨a, h1, h2, h3⟩
  · rintro ⟨a, b, _⟩; exact ⟨a, b⟩
theorem BP4 {g : TGroup} {r : Int} {x : F0} {t l : Int} (h : 0 ≤ r ∧ r < g.Reps.length) : repAt ⟨g.Reps.set r.toNat x, t, l⟩ r = x := by
  unfold repAt
  dsimp only
  rw [List.getElem?_set_self qz8]; rfl
theorem AZ5 {g : TGroup} {r q : Int} {x : F0} {t l : Int} (hr : 0 ≤ r) (hq : 0 ≤ q) (h : q ≠ r) : repAt ⟨g.Reps.set r.toNat x, t, l⟩ q = repAt g q := by
  unfold repAt
  dsimp only
  rw [List.getElem?_set_ne qz8]
theorem gr_mono {r : F0} {t u : Int} (h : GR r t) (k : t ≤ u) : GR r u := ⟨h.len, h.sure, fun e he => by have := h.ents e he; exact ⟨this.1, by omega, this.2.2⟩, h.sorted⟩
theorem BE1 {g : TGroup} (h : GG g) {r : Int} {x : F0} (hx : GR x g.Term) : ∀ y ∈ g.Reps.set r.toNat x, GR y g.Term := fun y hy => by
  rcases List.mem_or_eq_of_mem_set hy with hy | rfl
  · exact h.reps y hy
  · exact hx
theorem Bz1 {g : TGroup} {r : Int} (h : (crashR g r).2 = true) : GG (crashR g r).1 ∧ (crashR g r).1.Reps.length = g.Reps.length := by
  unfold crashR at h ⊢
  by_cases hc : isUp g r true = true
  · rw [if_pos hc] at h ⊢
    obtain ⟨gg, hr, hu⟩ := AE7.1 hc
    have hg := gg.reps _ (f7 hr)
    refine ⟨⟨?_, gg.term, ?_, BE1 gg ⟨hg.len, hg.sure, hg.ents, hg.sorted⟩⟩, List.length_set ..⟩
    · show (g.Reps.set _ _).length = 3 ∨ (g.Reps.set _ _).length = 5
      rw [List.length_set]; exact gg.many
    · dsimp only
      by_cases hl : g.Lead = r
      · rw [if_pos hl]; exact .inl rfl
      · rw [if_neg hl]
        rcases gg.lead with e | ⟨a, b, c⟩
        · exact .inl e
        · refine .inr ⟨a, by rw [List.length_set]; exact b, ?_⟩
          have := AZ5 (g := g) (x := ⟨false, (repAt g r).Log, (repAt g r).Sure⟩) (t := g.Term) (l := g.Lead) hr.1 a hl
          rw [this]; exact c
  · rw [if_neg hc] at h; cases h
theorem Bz2 {g : TGroup} {r : Int} (h : (startR g r).2 = true) : GG (startR g r).1 ∧ (startR g r).1.Reps.length = g.Reps.length := by
  unfold startR at h ⊢
  by_cases hc : isUp g r false = true
  · rw [if_pos hc] at h ⊢
    obtain ⟨gg, hr, hu⟩ := AE7.1 hc
    have hg := gg.reps _ (f7 hr)
    refine ⟨⟨?_, gg.term, ?_, BE1 gg ⟨hg.len, hg.sure, hg.ents, hg.sorted⟩⟩, List.length_set ..⟩
    · show (g.Reps.set _ _).length = 3 ∨ (g.Reps.set _ _).length = 5
      rw [List.length_set]; exact gg.many
    · dsimp only
      rcases gg.lead with e | ⟨a, b, c⟩
      · exact .inl e
      · refine .inr ⟨a, by rw [List.length_set]; exact b, ?_⟩
        by_cases hl : g.Lead = r
        · rw [hl] at c; rw [hu] at c; cases c
        · have := AZ5 (g := g) (x := ⟨true, (repAt g r).Log, (repAt g r).Sure⟩) (t := g.Term) (l := g.Lead) hr.1 a hl
          rw [this]; exact c
  · rw [if_neg hc] at h; cases h
theorem BI3 {g : TGroup} {r : Int} (h : (electR g r).2 = true) : GG (electR g r).1 ∧ (electR g r).1.Reps.length = g.Reps.length ∧ (electR g r).1.Lead = r ∧ 0 ≤ r ∧ r < g.Reps.length := by
  unfold electR at h ⊢
  split at h
  · rename_i hc
    rw [if_pos hc]
    rw [Bool.and_eq_true, Bool.not_eq_true', beq_eq_false_iff_ne] at hc
    obtain ⟨gg, hr, hu⟩ := AE7.1 hc.1.1
    have ht := gg.term
    exact ⟨⟨gg.many, by dsimp only; omega, .inr ⟨hr.1, hr.2, hu⟩, fun y hy => gr_mono (gg.reps y hy) (by dsimp only; omega)⟩, rfl, rfl, hr.1, hr.2⟩
  · cases h
theorem Af2 {g : TGroup} (gg : GG g) {r : Int} (hr : 0 ≤ r ∧ r < g.Reps.length) {x : F0} (hx : GR x g.Term) (hu : x.Up = (repAt g r).Up) : GG (setRep g r x) := by
  refine ⟨?_, gg.term, ?_, BE1 gg hx⟩
  · show (g.Reps.set _ _).length = 3 ∨ (g.Reps.set _ _).length = 5
    rw [List.length_set]; exact gg.many
  · show g.Lead = -1 ∨ (0 ≤ g.Lead ∧ g.Lead < ((g.Reps.set r.toNat x).length : Int) ∧ (repAt ⟨g.Reps.set r.toNat x, g.Term, g.Lead⟩ g.Lead).Up = true)
    rcases gg.lead with e | ⟨a, b, c⟩
    · exact .inl e
    · refine .inr ⟨a, by rw [List.length_set]; exact b, ?_⟩
      by_cases hl : g.Lead = r
      · have := BP4 (g := g) (x := x) (t := g.Term) (l := g.Lead) hr
        rw [hl] at c this ⊢
        rw [this, hu]; exact c
      · have := AZ5 (g := g) (x := x) (t := g.Term) (l := g.Lead) hr.1 a hl
        rw [this]; exact c
theorem Am1 (g : TGroup) (r : Int) (x : F0) : (setRep g r x).Reps.length = g.Reps.length := List.length_set ..
theorem CG2 {g : TGroup} {r : L2} (ht : 1 ≤ g.Term) (h : (e6 g r).2 = true) : GG (e6 g r).1 ∧ (e6 g r).1.Reps.length = g.Reps.length ∧ (e6 g r).1.Lead = g.Lead := by
  unfold e6 at h ⊢
  split at h
  · rename_i hc
    rw [if_pos hc]
    rw [Bool.and_eq_true] at hc
    obtain ⟨gg, h1, h2, h3⟩ := AI5.1 hc.1.1
    have hg := gg.reps _ (f7 ⟨h1, h2⟩)
    refine ⟨Af2 gg ⟨h1, h2⟩ ⟨?_, ?_, fun e he => ?_, ?_⟩ rfl, Am1 .., rfl⟩
    · rw [G2]; have := hc.2; simp; omega
    · have := hg.sure; rw [G2]; simp; omega
    · rcases List.mem_append.1 he with he | he
      · exact hg.ents e he
      · rw [List.mem_singleton.1 he]
        exact ⟨ht, Int.le_refl _, hc.1.2⟩
    · rw [List.pairwise_append]
      exact ⟨hg.sorted, List.pairwise_singleton _ _, fun a ha b hb => by rw [List.mem_singleton.1 hb]; exact (hg.ents a ha).2.1⟩
  · cases h
theorem CG3 {g : TGroup} {r : Int} (h : (j5 g r).2 = true) : GG (j5 g r).1 ∧ (j5 g r).1.Reps.length = g.Reps.length ∧ (j5 g r).1.Lead = g.Lead := by
  unfold j5 at h ⊢
  split at h
  · rename_i hc
    rw [if_pos hc]
    rw [Bool.and_eq_true, decide_eq_true_eq] at hc
    obtain ⟨gg, hr, hu⟩ := AE7.1 hc.1.1
    have hl : 0 ≤ g.Lead ∧ g.Lead < g.Reps.length := by rcases gg.lead with e | ⟨a, b, _⟩; omega; exact ⟨a, b⟩
    have hg := gg.reps _ (f7 hl)
    have hq := gg.reps _ (f7 hr)
    refine ⟨Af2 gg hr ⟨hg.len, ?_, hg.ents, hg.sorted⟩ hu.symm, Am1 .., rfl⟩
    have h1 := hg.sure
    have h2 := hq.sure
    dsimp only
    omega
  · cases h
theorem adv_good {g : TGroup} (h : (o5 g).2 = true) : GG (o5 g).1 ∧ (o5 g).1.Reps.length = g.Reps.length ∧ (o5 g).1.Lead = g.Lead := by
  unfold o5 at h ⊢
  split at h
  · rename_i hc
    rw [if_pos hc]
    obtain ⟨gg, h1, h2, h3⟩ := AI5.1 hc
    have hg := gg.reps _ (f7 ⟨h1, h2⟩)
    split
    · rename_i n hn
      have := Ao4 hn
      exact ⟨Af2 gg ⟨h1, h2⟩ ⟨hg.len, ⟨by dsimp only; omega, by dsimp only; omega⟩, hg.ents, hg.sorted⟩ rfl, Am1 .., rfl⟩
    · exact ⟨gg, rfl, rfl⟩
  · cases h
theorem Am2 {g : TGroup} {r : Int} : ((crashR g r).2 = true → (crashR g r).1.Term = g.Term) ∧ ((startR g r).2 = true → (startR g r).1.Term = g.Term) ∧ ((electR g r).2 = true → (electR g r).1.Term = g.Term + 1) ∧ ((j5 g r).2 = true → (j5 g r).1.Term = g.Term) := by
  unfold crashR startR electR j5 setRep
  refine ⟨?_, ?_, ?_, ?_⟩ <;> (split <;> intro h <;> first | rfl | cases h)
theorem CG4 {g : TGroup} {r : L2} (h : (e6 g r).2 = true) : (e6 g r).1.Term = g.Term := by
  unfold e6 setRep at *
  split <;> first | rfl | (rename_i hc; rw [if_neg hc] at h; cases h)
theorem adv_term {g : TGroup} (h : (o5 g).2 = true) : (o5 g).1.Term = g.Term := by
  unfold o5 setRep at *
  split at h
  · rw [if_pos ‹_›]; split <;> rfl
  · cases h
theorem Bz3 {g : TGroup} {r : Int} (h : (crashR g r).2 = true) : (crashR g r).1.Lead = -1 ∨ (crashR g r).1.Lead = g.Lead := by
  unfold crashR at h ⊢
  split at h
  · rw [if_pos ‹_›]; dsimp only; split; exact .inl rfl; exact .inr rfl
  · cases h
theorem Bz4 {g : TGroup} {r : Int} (h : (startR g r).2 = true) : (startR g r).1.Lead = g.Lead := by
  unfold startR at h ⊢
  split at h
  · rw [if_pos ‹_›]
  · cases h
def r5 (P : L2 → Prop) (g : TGroup) : Prop := ∀ r ∈ g.Reps, ∀ e ∈ r.Log, P e.Rec
theorem AT8 {P : L2 → Prop} {g : TGroup} (h : r5 P g) (r : Int) : ∀ e ∈ (repAt g r).Log, P e.Rec := by
  intro e he
  unfold repAt at he
  cases hx : g.Reps[r.toNat]? with
  | none => rw [hx] at he; cases he
  | some x => rw [hx] at he; exact h x (C6 hx) e he
theorem Ah1 {P : L2 → Prop} {g : TGroup} (h : r5 P g) {r : Int} {x : F0} (hx : ∀ e ∈ x.Log, P e.Rec) {t l : Int} : r5 P ⟨g.Reps.set r.toNat x, t, l⟩ := by
  intro y hy
  rcases List.mem_or_eq_of_mem_set hy with hy | rfl
  · exact h y hy
  · exact hx
theorem AG5 {P : L2 → Prop} : r5 P zGroup := fun r hr => by cases hr
theorem CG5 {P : L2 → Prop} {g : TGroup} {r : Int} (h : r5 P g) : r5 P (crashR g r).1 := by
  unfold crashR
  split
  · refine Ah1 h ?_; exact AT8 h r
  · exact AG5
theorem CG6 {P : L2 → Prop} {g : TGroup} {r : Int} (h : r5 P g) : r5 P (startR g r).1 := by
  unfold startR
  split
  · refine Ah1 h ?_; exact AT8 h r
  · exact AG5
theorem CG7 {P : L2 → Prop} {g : TGroup} {r : Int} (h : r5 P g) : r5 P (electR g r).1 := by
  unfold electR
  split
  · exact h
  · exact AG5
theorem put_log {P : L2 → Prop} {g : TGroup} {r : L2} (h : r5 P g) (hr : P r) : r5 P (e6 g r).1 := by
  unfold e6
  split
  · refine Ah1 h fun e he => ?_
    rcases List.mem_append.1 he with he | he
    · exact AT8 h _ e he
    · rw [List.mem_singleton.1 he]; exact hr
  · exact AG5
theorem copy_log {P : L2 → Prop} {g : TGroup} {r : Int} (h : r5 P g) : r5 P (j5 g r).1 := by
  unfold j5
  split
  · refine Ah1 h ?_; exact AT8 h g.Lead
  · exact AG5
theorem adv_log {P : L2 → Prop} {g : TGroup} (h : r5 P g) : r5 P (o5 g).1 := by
  unfold o5
  split
  · split
    · refine Ah1 h ?_; exact AT8 h g.Lead
    · exact h
  · exact AG5
def BM5 (r : L2) : Prop := ∀ w ∈ r.Writes, w.Key ∈ keyD
structure WG (g : TGroup) : Prop where
  good : GG g
  three : g.Reps.length = 3
  led : 0 ≤ g.Lead → 1 ≤ g.Term
  keys : r5 BM5 g
theorem wg_crash {g : TGroup} {r : Int} (w : WG g) (h : (crashR g r).2 = true) : WG (crashR g r).1 := by
  have h1 := Bz1 h
  refine ⟨h1.1, h1.2.trans w.three, fun hl => ?_, CG5 w.keys⟩
  have := w.led
  rw [(Am2 (g := g) (r := r)).1 h]
  rcases Bz3 h with e | e <;> rw [e] at hl
  · omega
  · exact this hl
theorem wg_start {g : TGroup} {r : Int} (w : WG g) (h : (startR g r).2 = true) : WG (startR g r).1 := by
  have h1 := Bz2 h
  refine ⟨h1.1, h1.2.trans w.three, fun hl => ?_, CG6 w.keys⟩
  rw [(Am2 (g := g) (r := r)).2.1 h]
  rw [Bz4 h] at hl
  exact w.led hl
theorem wg_elect {g : TGroup} {r : Int} (w : WG g) (h : (electR g r).2 = true) : WG (electR g r).1 := by
  have h1 := BI3 h
  refine ⟨h1.1, h1.2.1.trans w.three, fun hl => ?_, CG7 w.keys⟩
  rw [(Am2 (g := g) (r := r)).2.2.1 h]
  have := w.good.term
  omega
theorem wg_copy {g : TGroup} {r : Int} (w : WG g) (h : (j5 g r).2 = true) : WG (j5 g r).1 := by
  have h1 := CG3 h
  refine ⟨h1.1, h1.2.1.trans w.three, fun hl => ?_, copy_log w.keys⟩
  rw [(Am2 (g := g) (r := r)).2.2.2 h]
  rw [h1.2.2] at hl
  exact w.led hl
theorem wg_put {g : TGroup} {r : L2} (w : WG g) (hl : 0 ≤ g.Lead) (hk : BM5 r) (h : (e6 g r).2 = true) : WG (e6 g r).1 := by
  have h1 := CG2 (w.led hl) h
  refine ⟨h1.1, h1.2.1.trans w.three, fun _ => ?_, put_log w.keys hk⟩
  rw [CG4 h]; exact w.led hl
theorem wg_adv {g : TGroup} (w : WG g) (h : (o5 g).2 = true) : WG (o5 g).1 := by
  have h1 := adv_good h
  refine ⟨h1.1, h1.2.1.trans w.three, fun hl => ?_, adv_log w.keys⟩
  rw [adv_term h]
  rw [h1.2.2] at hl
  exact w.led hl
end Go.M
namespace Go.M
end Go.M
namespace Go.M
open Go.AV
abbrev decD (n : Nat) : Str := Lib.decDigits n
abbrev AB5 (n : Int) : Str := Lib.itoa n
theorem AW2 {n : Nat} (h : n < 10) : decD n = [UInt8.ofNat (48 + n)] := Lib.decDigits_one h
theorem AZ6 {n : Nat} (h : ¬ n < 10) : decD n = decD (n / 10) ++ [UInt8.ofNat (48 + n % 10)] := by
  show Lib.decDigits n = _
  rw [Lib.decDigits, dif_neg h]
theorem AZ7 : ∀ {k n : Nat}, n < 10 ^ k → 1 ≤ k → (decD n).length ≤ k
  | 0, _, _, h => by omega
  | k + 1, n, h, _ => by
    by_cases hn : n < 10
    · rw [AW2 hn]; simp
    · rw [AZ6 hn, G2]
      have : k ≠ 0 := by rintro rfl; simp at h; omega
      have h2 := AZ7 (k := k) (n := n / 10) (by rw [Nat.pow_succ] at h; omega) qz8
      simp only [H6, N1]; omega
theorem BE2 (n : Nat) : AB5 n = decD n := Lib.itoa_nonneg n
theorem itoa_pos {n : Int} (h : 0 ≤ n) : AB5 n = decD n.toNat := by
  obtain ⟨m, rfl⟩ : ∃ m : Nat, n = (m : Int) := ⟨n.toNat, by omega⟩
  rw [BE2]; rfl
theorem u8w2 {x : Int} {m : Nat} (h : x % 256 = ((m % 256 : Nat) : Int)) : IntKind.u8.wrap x = ((UInt8.ofNat m).toNat : Int) := by
  have : (UInt8.ofNat m).toNat = m % 256 := by simp
  rw [this, ← h]
  simp [IntKind.wrap, IntKind.bits, IntKind.signed]
theorem dig1 (n : Nat) : IntKind.u8.wrap (48 + (n : Int)) = ((UInt8.ofNat (48 + n)).toNat : Int) := u8w2 qz8
theorem tmod10T (n : Nat) : (n : Int).tmod 10 = ((n % 10 : Nat) : Int) := rfl
theorem dig2 (n : Nat) : IntKind.u8.wrap (48 + (n : Int).tmod 10) = ((UInt8.ofNat (48 + n % 10)).toNat : Int) := by
  rw [show (n : Int).tmod 10 = ((n % 10 : Nat) : Int) from rfl]; exact u8w2 qz8
theorem quo10 {n : Nat} (h : n ≤ 1000000000000) : IntKind.i64.wrap ((n : Int).tdiv 10) = ((n / 10 : Nat) : Int) := by
  rw [show (n : Int).tdiv 10 = ((n / 10 : Nat) : Int) from rfl]
  have h2 : n / 10 ≤ 1000000000000 := by omega
  simp [IntKind.wrap, IntKind.bits, IntKind.signed]
  omega
def Ae0 (b : UInt8) : Bool := decide (48 ≤ b.toNat) && decide (b.toNat ≤ 57)
theorem decD_ne (n : Nat) : decD n ≠ [] := by
  by_cases h : n < 10
  · rw [AW2 h]; simp
  · rw [AZ6 h]; simp
def W4 (n : Nat) : Str → Int
  | [] => n
  | b :: s => if Ae0 b = true then W4 (10 * n + (b.toNat - 48)) s else -1
def Aa8 (s : Str) : Bool := !within s.length 1 6 || ((s.head?.map fun b => b == 48).getD false && decide ((1 : Int) < (s.length : Int)))
def l1R (s : Str) : Int := if Aa8 s = true then -1 else W4 0 s
structure GoodC (c : Z5) : Prop where
  time : ∃ t : Nat, c.Time = (t : Int) ∧ 1 ≤ t ∧ t ≤ 100000
  group : ∃ g : Nat, c.Group = (g : Int) ∧ g ≤ 3
  key : 1 ≤ c.Key.length ∧ (32 : UInt8) ∉ c.Key ∧ (61 : UInt8) ∉ c.Key
  val : (32 : UInt8) ∉ c.Val ∧ (61 : UInt8) ∉ c.Val
  gone : c.Gone = true → c.Val = []
def AH5 (k : Int) : Bool := k == 2 || k == 7
def AO9 (k : Int) : Bool := k == 4 || k == 5
def isOp (o : TOp) : Bool := within o.Kind 1 7 && goodKey o.Key && goodVal o.Val && (AH5 o.Kind || o.Val == []) && within o.By (-9999) 9999 && (AO9 o.Kind || o.By == 0)
def goodOps (l : List TOp) : Bool := decide ((l.length : Int) ≤ 8) && !(l.any fun o => !isOp o)
def l5Op (o : TOp) : Bool := if l3Key o.Key = false then false else if AH5 o.Kind = true then l3Val o.Val && (o.By == 0) else if AO9 o.Kind = true then (o.Val == []) && within o.By (-9999) 9999 else (((o.Kind == 1 || o.Kind == 3) || o.Kind == 6) && o.Val == []) && (o.By == 0)
def l5Good (l : List TOp) : Bool := l.all l5Op && decide ((l.length : Int) ≤ 8)
theorem Bv0 (o : TOp) : isOp o = l5Op o := by
  obtain ⟨K, k, v, b⟩ := o
  unfold isOp l5Op AH5 AO9 within
  dsimp only
  rw [AA8, BH2]
  have hv : l3Val [] = true := by decide
  cases hk : l3Key k with
  | false => simp
  | true =>
    simp only [Bool.and_true, Bool.true_eq_false, if_false]
    by_cases h2 : K = 2
    · subst h2; cases l3Val v <;> simp <;> (by_cases hb : b = 0 <;> simp [hb])
    · by_cases h7 : K = 7
      · subst h7; cases l3Val v <;> simp <;> (by_cases hb : b = 0 <;> simp [hb])
      · have e2 : (K == 2) = false := by simpa using h2
        have e7 : (K == 7) = false := by simpa using h7
        by_cases h4 : K = 4
        · subst h4; cases v <;> simp [hv]
        · by_cases h5 : K = 5
          · subst h5; cases v <;> simp [hv]
          · have e4 : (K == 4) = false := by simpa using h4
            have e5 : (K == 5) = false := by simpa using h5
            rw [e2, e7, e4, e5]
            cases v with
            | nil =>
              by_cases hb : b = 0
              · subst hb
                rw [Bool.eq_iff_iff]
                simp [hv]; omega
              · have eb : (b == 0) = false := by simpa using hb
                simp [eb]
            | cons c v => simp
theorem BI4 (l : List TOp) : goodOps l = l5Good l := by
  unfold goodOps l5Good
  rw [List.not_any_eq_all_not, Bool.and_comm]
  congr 1
  congr 1; funext o; rw [Bool.not_not, Bv0]
def l5N (s : Str) : Int × Bool :=
  if (decide (l1R (if s.head? = some 45 then s.drop 1 else s) < 0) || (decide (s.head? = some 45) && (l1R (if s.head? = some 45 then s.drop 1 else s) == 0))) = true then (0, false)
  else if s.head? = some 45 then (-(l1R (s.drop 1)), true) else (l1R s, true)
structure GoodO (o : TOp) : Prop where
  kind : 1 ≤ o.Kind ∧ o.Kind ≤ 7
  key : (32 : UInt8) ∉ o.Key ∧ (59 : UInt8) ∉ o.Key
  val : (32 : UInt8) ∉ o.Val ∧ (59 : UInt8) ∉ o.Val
  noval : AH5 o.Kind = false → o.Val = []
  noby : AO9 o.Kind = false → o.By = 0
  by' : -9999 ≤ o.By ∧ o.By ≤ 9999
theorem Am3 {n : Nat} (h : 1 ≤ n) : AB5 (-(n : Int)) = 45 :: decD n := by
  show Lib.itoa _ = _
  unfold Lib.itoa
  rw [if_pos qz8]; simp
theorem Bz5 {l : List TOp} (h : goodOps l = true) : ∀ o ∈ l, isOp o = true := fun o ho => by
  rw [BI4] at h
  unfold l5Good at h
  rw [Bool.and_eq_true, List.all_eq_true] at h
  rw [Bv0]; exact h.1 o ho
theorem Bh4 {d : UInt8} : ∀ (s : Str) (m n : Nat), W4 m (s ++ [d]) = (n : Int) → ∃ v : Nat, W4 m s = (v : Int) ∧ (48 ≤ d.toNat ∧ d.toNat ≤ 57) ∧ n = 10 * v + (d.toNat - 48)
  | [], m, n, h => by
    simp only [List.nil_append, W4] at h
    split at h
    · rename_i hd
      refine ⟨m, rfl, ?_, by omega⟩
      unfold Ae0 at hd; simp at hd; omega
    · exfalso; omega
  | b :: s, m, n, h => by
    show ∃ v : Nat, (if Ae0 b = true then W4 (10 * m + (b.toNat - 48)) s else -1) = (v : Int) ∧ _
    have h2 : (if Ae0 b = true then W4 (10 * m + (b.toNat - 48)) (s ++ [d]) else -1) = (n : Int) := h
    split at h2
    · rename_i hb
      rw [if_pos hb]
      exact Bh4 s _ n h2
    · exfalso; omega
theorem rd_ge : ∀ (s : Str) (m n : Nat), W4 m s = (n : Int) → m ≤ n
  | [], m, n, h => by simp only [W4] at h; omega
  | b :: s, m, n, h => by
    simp only [W4] at h
    split at h
    · have := rd_ge s _ n h; omega
    · exfalso; omega
theorem u8_dig {d : UInt8} (h : 48 ≤ d.toNat ∧ d.toNat ≤ 57) : UInt8.ofNat (48 + (d.toNat - 48)) = d := by
  apply UInt8.toNat_inj.1
  simp; omega
theorem dec_of : ∀ (k : Nat) (s : Str) (n : Nat), s.length = k + 1 → W4 0 s = (n : Int) → (s.head? ≠ some 48 ∨ k = 0) → decD n = s
  | 0, s, n, hl, h, _ => by
    match s, hl with
    | [d], _ =>
      obtain ⟨v, h1, h2, h3⟩ := Bh4 [] 0 n h
      simp only [W4] at h1
      have hv : v = 0 := by omega
      subst hv
      rw [AW2 qz8, h3, show 48 + (10 * 0 + (d.toNat - 48)) = 48 + (d.toNat - 48) by omega, u8_dig h2]
  | k + 1, s, n, hl, h, hh => by
    have hne : s ≠ [] := by rintro rfl; simp at hl
    obtain ⟨t, d, rfl⟩ : ∃ t d, s = t ++ [d] := ⟨s.dropLast, s.getLast hne, (List.dropLast_concat_getLast hne).symm⟩
    have htl : t.length = k + 1 := by simpa using hl
    obtain ⟨v, h1, h2, h3⟩ := Bh4 t 0 n h
    match t, htl with
    | b :: t', _ =>
      have hb : b ≠ 48 := by
        rcases hh with hh | hh
        · intro e; subst e; simp at hh
        · omega
      have ih := dec_of k (b :: t') v k0 h1 (.inl (by simpa using hb))
      have hv : 1 ≤ v := by
        simp only [W4] at h1
        split at h1
        · rename_i hd
          have h9 := rd_ge t' _ v h1
          have h8 : b.toNat ≠ 48 := fun e => hb (UInt8.toNat_inj.1 e)
          unfold Ae0 at hd; simp at hd
          omega
        · exfalso; omega
      rw [AZ6 qz8, show n / 10 = v by omega, show n % 10 = d.toNat - 48 by omega, u8_dig h2, ih]
theorem BE3 {s : Str} (h : 0 ≤ l1R s) : s = decD (l1R s).toNat := by
  unfold l1R at h ⊢
  by_cases hb : Aa8 s = true
  · rw [if_pos hb] at h; omega
  · rw [if_neg hb] at h ⊢
    obtain ⟨n, hn⟩ : ∃ n : Nat, W4 0 s = (n : Int) := ⟨(W4 0 s).toNat, by omega⟩
    rw [hn]
    have hc : within s.length 1 6 = true ∧ ((s.head?.map fun b => b == 48).getD false && decide ((1 : Int) < (s.length : Int))) = false := by
      unfold Aa8 at hb
      simp only [Bool.or_eq_true, not_or, Bool.not_eq_true', Bool.not_eq_false] at hb
      exact ⟨hb.1, by simpa using hb.2⟩
    have hl : 1 ≤ s.length := by have := hc.1; unfold within at this; simp at this; omega
    refine (dec_of (s.length - 1) s n qz8 hn ?_).symm
    cases s with
    | nil => simp at hl
    | cons b r =>
      by_cases hz : r.length = 0
      · exact .inr (by simpa using hz)
      · left
        have h2 := hc.2
        simp only [List.head?_cons, Option.map_some, Option.getD_some, Bool.and_eq_false_iff, decide_eq_false_iff_not] at h2
        rcases h2 with h2 | h2
        · simpa using h2
        · exfalso; simp at h2; omega
theorem l5N_back {s : Str} {n : Int} (h : l5N s = (n, true)) : s = AB5 n ∧ -999999 ≤ n ∧ n ≤ 999999 := by
  have up : ∀ t : Str, 0 ≤ l1R t → l1R t ≤ 999999 := fun t ht => by
    have e := BE3 ht
    have hl : t.length ≤ 6 := by
      unfold l1R at ht
      split at ht
      · omega
      · rename_i hb
        unfold Aa8 within at hb
        simp at hb; omega
    rw [e] at hl
    have hnn : l1R t = ((l1R t).toNat : Int) := by omega
    by_cases hb : (l1R t).toNat ≤ 999999
    · omega
    · exfalso
      have : ∀ m : Nat, 10 ^ 6 ≤ m → 7 ≤ (decD m).length := by
        intro m
        have step : ∀ k m : Nat, 10 ^ k ≤ m → k + 1 ≤ (decD m).length := by
          intro k
          induction k with
          | zero => intro m _; have := decD_ne m; cases hd : decD m with | nil => exact absurd hd this | cons b r => simp
          | succ k ih =>
            intro m hm
            have h10 : ¬ m < 10 := by rw [Nat.pow_succ] at hm; have := Nat.one_le_pow k 10 D0; omega
            rw [AZ6 h10, G2]
            have := ih (m / 10) (by rw [Nat.pow_succ] at hm; omega)
            simp only [H6, N1]; omega
        exact step 6 m
      have := this (l1R t).toNat qz8
      omega
  unfold l5N at h
  by_cases hh : s.head? = some 45
  · rw [if_pos (c := s.head? = some 45) hh] at h
    split at h
    · cases h
    · rename_i hc
      injection h with h _
      simp only [Bool.or_eq_true, decide_eq_true_eq, Bool.and_eq_true, beq_iff_eq, not_or, not_and] at hc
      have h0 := hc.2 hh
      have h1 : 0 ≤ l1R (s.drop 1) := by omega
      have e := BE3 h1
      have hu := up _ h1
      cases s with
      | nil => cases hh
      | cons b r =>
        simp at hh; subst hh
        have e2 : r = decD (l1R r).toNat := e
        have h1' : 0 ≤ l1R r := h1
        have h0' : ¬ l1R r = 0 := h0
        have hu' : l1R r ≤ 999999 := hu
        have hn : n = -(((l1R r).toNat : Nat) : Int) := by rw [← h]; show -(l1R r) = _; omega
        refine ⟨?_, by omega, by omega⟩
        rw [hn, Am3 qz8, ← e2]
  · rw [if_neg (c := s.head? = some 45) hh] at h
    split at h
    · cases h
    · rename_i hc
      injection h with h _
      simp only [Bool.or_eq_true, decide_eq_true_eq, not_or] at hc
      have h1 : 0 ≤ l1R s := by omega
      have e := BE3 h1
      have hu := up _ h1
      have hn : n = (((l1R s).toNat : Nat) : Int) := by omega
      refine ⟨?_, by omega, by omega⟩
      rw [hn, BE2, ← e]
theorem l5N_fail (s : Str) (h : (l5N s).2 = false) : l5N s = (0, false) := by
  unfold l5N at h ⊢
  by_cases hh : s.head? = some 45
  · rw [if_pos (c := s.head? = some 45) hh] at h ⊢
    split
    · rfl
    · rename_i hc; rw [if_neg hc, if_pos hh] at h; cases h
  · rw [if_neg (c := s.head? = some 45) hh] at h ⊢
    split
    · rfl
    · rename_i hc; rw [if_neg hc, if_neg hh] at h; cases h
def E2 (buf : List A9) (got : List G4) (k : Str) : Str × Bool × Bool :=
  match buf.find? (fun w => w.Key == k) with
  | some w => (w.Val, !w.Gone, true)
  | none => match got.find? (fun g => g.Key == k) with
    | some g => (g.Val, g.There, true)
    | none => ([], false, false)
def m5 (o : TOp) (val : Str) (there : Bool) : Bool :=
  if o.Kind = 4 then (if there = true then !(l5N val).2 || !within ((l5N val).1 + o.By) (-999999) 999999 else false)
  else if o.Kind = 5 then (!there || !(l5N val).2) || decide ((l5N val).1 < o.By)
  else if o.Kind = 6 then there
  else if o.Kind = 7 then !there || (val != o.Val)
  else false
def addR (o : TOp) (val : Str) (there : Bool) : Int := (if there = true then (l5N val).1 else 0) + o.By
def opPut (o : TOp) (val : Str) (there : Bool) (buf : List A9) : List A9 :=
  if o.Kind = 2 then ins buf ⟨o.Key, o.Val, false⟩
  else if o.Kind = 3 then ins buf ⟨o.Key, [], true⟩
  else if o.Kind = 4 then ins buf ⟨o.Key, AB5 (addR o val there), false⟩
  else buf
def BF3 (o : TOp) (s : Str × Bool × Bool) : Bool := (!s.2.2 && (o.Kind != 2)) && (o.Kind != 3)
def stepFrom (got : List G4) : List A9 → List TOp → Int × Str × List A9
  | buf, [] => (3, [], buf)
  | buf, o :: l =>
    if BF3 o (E2 buf got o.Key) = true then (1, o.Key, [])
    else if m5 o (E2 buf got o.Key).1 (E2 buf got o.Key).2.1 = true then (2, [], [])
    else stepFrom got (opPut o (E2 buf got o.Key).1 (E2 buf got o.Key).2.1 buf) l
def N9 (l : List TOp) (got : List G4) : Int × Str × List A9 := stepFrom got [] l
theorem Am4 {w : A9} {k : Str} : ∀ {l : List A9}, k ∈ M2 (ins l w) ↔ k = w.Key ∨ k ∈ M2 l
  | [] => by unfold ins M2; simp
  | x :: l => by
    have ih := Am4 (w := w) (k := k) (l := l)
    unfold M2 at ih ⊢
    unfold ins
    split
    · rw [List.map_cons, List.map_cons, List.mem_cons, List.mem_cons, ih]
      constructor
      · rintro (e | e | e); exact .inr (.inl e); exact .inl e; exact .inr (.inr e)
      · rintro (e | e | e); exact .inr (.inl e); exact .inl e; exact .inr (.inr e)
    · split
      · rename_i h
        rw [List.map_cons, List.map_cons, List.mem_cons, List.mem_cons, h]
        constructor
        · rintro (e | e); exact .inl e; exact .inr (.inr e)
        · rintro (e | e | e); exact .inl e; exact .inl e; exact .inr e
      · rw [List.map_cons, List.map_cons, List.mem_cons, List.mem_cons]
theorem l8 {o : TOp} {v : Str} {t : Bool} {buf : List A9} (h : adj wLess buf = true) : adj wLess (opPut o v t buf) = true := by
  unfold opPut
  split
  · exact r7 h
  · split
    · exact r7 h
    · split
      · exact r7 h
      · exact h
theorem l9 {o : TOp} {v : Str} {t : Bool} {buf : List A9} : (opPut o v t buf).length ≤ buf.length + 1 := by
  unfold opPut
  split
  · exact Ag9.2
  · split
    · exact Ag9.2
    · split
      · exact Ag9.2
      · omega
theorem CG8 {n : Int} (h : -999999 ≤ n ∧ n ≤ 999999) : (AB5 n).length ≤ 7 := by
  by_cases hn : 0 ≤ n
  · rw [itoa_pos hn]
    have := AZ7 (k := 6) (n := n.toNat) qz8 D0; omega
  · obtain ⟨m, rfl⟩ : ∃ m : Nat, n = -(m : Int) := ⟨n.natAbs, by omega⟩
    rw [Am3 qz8]
    have := AZ7 (k := 6) (n := m) qz8 D0
    simp only [H6]; omega
theorem Am5 {o : TOp} {v : Str} {t : Bool} (hk : o.Kind = 4) (hb : -10000 ≤ o.By ∧ o.By ≤ 10000) (h : m5 o v t = false) : -999999 ≤ addR o v t ∧ addR o v t ≤ 999999 := by
  unfold m5 at h
  rw [if_pos hk] at h
  unfold addR
  cases t with
  | false => rw [if_neg D0]; omega
  | true =>
    rw [if_pos rfl] at h ⊢
    simp only [Bool.or_eq_false_iff, Bool.not_eq_false'] at h
    have := h.2
    unfold within at this
    simp only [Bool.and_eq_true, decide_eq_true_eq] at this
    exact this
theorem m1 {o : TOp} {v : Str} {t : Bool} {buf : List A9} {n : Nat} (ho : o.size ≤ n) (hn : 19 ≤ n) (hb : -10000 ≤ o.By ∧ o.By ≤ 10000) (hk : o.Key.length ≤ 12 ∨ o.Kind ≠ 4) (hg : m5 o v t = false) (h : ∀ w ∈ buf, w.size ≤ n) : ∀ w ∈ opPut o v t buf, w.size ≤ n := by
  have hos : o.Key.length ≤ n ∧ o.Key.length + o.Val.length ≤ n := by unfold TOp.size at ho; omega
  unfold opPut
  split
  · intro w hw
    rcases AX4 hw with rfl | hw
    · unfold A9.size; exact hos.2
    · exact h w hw
  · split
    · intro w hw
      rcases AX4 hw with rfl | hw
      · unfold A9.size; simp only [N1]; omega
      · exact h w hw
    · split
      · rename_i h2 h3 h4
        intro w hw
        rcases AX4 hw with rfl | hw
        · have := CG8 (Am5 h4 hb hg)
          unfold A9.size
          dsimp only
          rcases hk with hk | hk
          · omega
          · exact absurd h4 hk
        · exact h w hw
      · exact h
theorem Bz6 {o : TOp} {v : Str} {t : Bool} {buf : List A9} {k : Str} (h : k ∈ M2 (opPut o v t buf)) : k = o.Key ∨ k ∈ M2 buf := by
  unfold opPut at h
  split at h
  · exact Am4.1 h
  · split at h
    · exact Am4.1 h
    · split at h
      · exact Am4.1 h
      · exact .inr h
structure Ran (l : List TOp) (got : List G4) (b : Nat) (n : Nat) (r : Int × Str × List A9) : Prop where
  adj : adj wLess r.2.2 = true
  len : r.2.2.length ≤ b + l.length
  size : ∀ w ∈ r.2.2, w.size ≤ n
  ed : r.1 = 1 ∨ r.1 = 2 ∨ r.1 = 3
  ask : r.1 = 1 → (∃ o ∈ l, o.Key = r.2.1) ∧ ∀ g ∈ got, g.Key ≠ r.2.1
  klen : r.2.1.length ≤ n
structure AH6 (n : Nat) (o : TOp) : Prop where
  size : o.size ≤ n
  by' : -10000 ≤ o.By ∧ o.By ≤ 10000
  key : o.Key.length ≤ 12
theorem Bh5 {buf : List A9} {got : List G4} {k : Str} (h : (E2 buf got k).2.2 = false) : (∀ w ∈ buf, w.Key ≠ k) ∧ ∀ g ∈ got, g.Key ≠ k := by
  unfold E2 at h
  split at h
  · cases h
  · rename_i hb
    split at h
    · cases h
    · rename_i hg
      refine ⟨fun w hw e => ?_, fun g hg2 e => ?_⟩
      · have := List.find?_eq_none.1 hb w hw; simp [e] at this
      · have := List.find?_eq_none.1 hg g hg2; simp [e] at this
theorem Bh6 {got : List G4} {n : Nat} (hn : 19 ≤ n) : ∀ {l : List TOp} {buf : List A9}, (∀ o ∈ l, AH6 n o) → adj wLess buf = true → (∀ w ∈ buf, w.size ≤ n) → Ran l got buf.length n (stepFrom got buf l)
  | [], buf, _, ha, hs => ⟨ha, Nat.le_refl _, hs, .inr (.inr rfl), fun h => absurd h (show ¬ (3 : Int) = 1 by decide), Nat.zero_le _⟩
  | o :: l, buf, ho, ha, hs => by
    have h0 := ho o List.mem_cons_self
    unfold stepFrom
    split
    · rename_i hk
      unfold BF3 at hk
      simp only [Bool.and_eq_true, Bool.not_eq_true'] at hk
      refine ⟨rfl, Nat.zero_le _, fun w hw => (by cases hw), .inl rfl, fun _ => ⟨⟨o, List.mem_cons_self, rfl⟩, (Bh5 hk.1.1).2⟩, ?_⟩
      have := h0.key; dsimp only; omega
    · split
      · exact ⟨rfl, Nat.zero_le _, fun w hw => (by cases hw), .inr (.inl rfl), fun h => absurd h D0, Nat.zero_le _⟩
      · rename_i hk hg
        rw [Bool.not_eq_true] at hg
        have ih := Bh6 (got := got) hn (l := l) (buf := opPut o (E2 buf got o.Key).1 (E2 buf got o.Key).2.1 buf) (fun x hx => ho x (List.mem_cons_of_mem _ hx)) (l8 ha) (m1 h0.size hn h0.by' (.inl h0.key) hg hs)
        have hl := l9 (o := o) (v := (E2 buf got o.Key).1) (t := (E2 buf got o.Key).2.1) (buf := buf)
        refine ⟨ih.adj, ?_, ih.size, ih.ed, fun h => ?_, ih.klen⟩
        · have := ih.len; rw [H6]; omega
        · obtain ⟨⟨x, hx, e⟩, k⟩ := ih.ask h
          exact ⟨⟨x, List.mem_cons_of_mem _ hx, e⟩, k⟩
theorem ran {l : List TOp} {got : List G4} {n : Nat} (hn : 19 ≤ n) (h : ∀ o ∈ l, AH6 n o) : Ran l got 0 n (N9 l got) := Bh6 hn h rfl fun w hw => absurd hw List.not_mem_nil
theorem AG6 {l : List TOp} (h : goodOps l = true) : ∀ o ∈ l, AH6 36 o := fun o ho => by
  have hg := Bz5 h o ho
  unfold isOp goodKey goodVal within at hg
  simp only [Bool.and_eq_true, decide_eq_true_eq] at hg
  obtain ⟨⟨⟨⟨⟨a1, a2⟩, a3⟩, a4⟩, a5⟩, a6⟩ := hg
  have b1 := a2.1
  have b2 := a3.1
  exact ⟨by unfold TOp.size; omega, by omega, by omega⟩
def isTxn (n : Int) : Bool := within n 1 60
def AU6 (x y : I0) : Bool := ((x.Key == y.Key) && (x.Txn != y.Txn)) && (x.Write || y.Write)
def putI : List Int → Int → List Int
  | [], n => [n]
  | x :: l, n => if x < n then x :: putI l n else if x = n then x :: l else n :: x :: l
def waitsS (l : List I0) (x : I0) : List Int := (l.filter (AU6 x)).foldl (fun a y => putI a y.Txn) []
def takeL : List I0 → I0 → List I0
  | [], x => [x]
  | y :: l, x => if (y.Key == x.Key && y.Txn == x.Txn) = true then ⟨y.Key, y.Txn, y.Write || x.Write⟩ :: l else y :: takeL l x
def AP0 (l : List I0) (fixed : List Int) (x : I0) (w : List Int) : Int × List Int :=
  if w.length = 0 then (1, []) else if (w.any fun t => decide (t < x.Txn) || fixed.any fun y => t == y) = true then (2, []) else (3, w)
structure Av7 (n : Nat) (c : Int) (t : A3) : Prop where
  terms : t.Terms.length = n
  ops : goodOps t.Ops = true ∧ ∀ o ∈ t.Ops, o.Key ∈ keyD
  got : t.Got.length ≤ 8 ∧ ∀ g ∈ t.Got, g.size ≤ 64
  span : t.Begin ≤ c ∧ (t.End = -1 ∨ (0 ≤ t.Begin ∧ t.Begin < t.End ∧ t.End ≤ c))
structure LkOk (n : Nat) (c : Int) (l : A2) : Prop where
  node : 0 ≤ l.Node ∧ l.Node < 3 * (n : Int)
  keys : l.Keys.length ≤ 8 ∧ ∀ k ∈ l.Keys, k.length ≤ 12
  got : l.Got.length ≤ l.Keys.length ∧ ∀ g ∈ l.Got, g.size ≤ 64
  span : l.Begin ≤ c ∧ (l.End = -1 ∨ (0 ≤ l.Begin ∧ l.Begin < l.End ∧ l.End ≤ c))
  time : 0 ≤ l.Time ∧ l.Time ≤ 1000000
def s3 (l : List I0) : Prop := l.length ≤ 60 ∧ ∀ x ∈ l, (1 ≤ x.Txn ∧ x.Txn ≤ 1000000) ∧ x.size ≤ 64
structure WI (w : TWorld) : Prop where
  n : 1 ≤ w.Groups.length ∧ w.Groups.length ≤ 3
  clocks : w.Clocks.length = 3 * w.Groups.length ∧ ∀ c ∈ w.Clocks, -5 ≤ c.Off ∧ c.Off ≤ 5
  cuts : w.Cuts.length + 1 = w.Groups.length ∧ ∀ c ∈ w.Cuts, c.length ≤ 12
  locks : w.Locks.length = w.Groups.length ∧ ∀ l ∈ w.Locks, s3 l
  promised : w.Promised.length = w.Groups.length ∧ ∀ p ∈ w.Promised, 0 ≤ p ∧ p ≤ 1000000
  groups : ∀ g ∈ w.Groups, WG g
  txns : w.Txns.length ≤ 6 ∧ ∀ t ∈ w.Txns, Av7 w.Groups.length w.Count t
  looks : w.Looks.length ≤ 4 ∧ ∀ l ∈ w.Looks, LkOk w.Groups.length w.Count l
  now : 0 ≤ w.Now ∧ w.Now ≤ 100000
  count : 0 ≤ w.Count ∧ w.Count ≤ 1000000
structure WQ (w : TWorld) : Prop where
  txns : ∀ t ∈ w.Txns, t.Begin < w.Count
  looks : ∀ l ∈ w.Looks, l.Begin < w.Count
structure WS (w v : TWorld) : Prop where
  cuts : v.Cuts = w.Cuts
  groups : v.Groups.length = w.Groups.length
  txns : v.Txns.length = w.Txns.length
  looks : v.Looks.length = w.Looks.length
  now : v.Now = w.Now
  count : v.Count = w.Count
structure WF (w v : TWorld) : Prop where
  wi : WI v
  ws : WS w v
  lk : v.Looks = w.Looks
  gr : v.Groups = w.Groups
theorem WF.trans {u v w : TWorld} (h : WF u v) (k : WF v w) : WF u w := ⟨k.wi, ⟨k.ws.cuts.trans h.ws.cuts, k.ws.groups.trans h.ws.groups, k.ws.txns.trans h.ws.txns, k.ws.looks.trans h.ws.looks, k.ws.now.trans h.ws.now, k.ws.count.trans h.ws.count⟩, k.lk.trans h.lk, k.gr.trans h.gr⟩
theorem WF.refl {w : TWorld} (h : WI w) : WF w w := ⟨h, ⟨rfl, rfl, rfl, rfl, rfl, rfl⟩, rfl, rfl⟩
theorem WS.refl (w : TWorld) : WS w w := ⟨rfl, rfl, rfl, rfl, rfl, rfl⟩
theorem WS.trans {u v w : TWorld} (h : WS u v) (k : WS v w) : WS u w := ⟨k.cuts.trans h.cuts, k.groups.trans h.groups, k.txns.trans h.txns, k.looks.trans h.looks, k.now.trans h.now, k.count.trans h.count⟩
def wGroup (w : TWorld) (i : Nat) (g : TGroup) : TWorld := { w with Groups := w.Groups.set i g }
def wLocks (w : TWorld) (i : Nat) (l : List I0) : TWorld := { w with Locks := w.Locks.set i l }
def AD4 (w : TWorld) (i : Nat) (p : Int) : TWorld := { w with Promised := w.Promised.set i p }
def wTxn (w : TWorld) (i : Nat) (t : A3) : TWorld := { w with Txns := w.Txns.set i t }
def wLook (w : TWorld) (i : Nat) (t : A2) : TWorld := { w with Looks := w.Looks.set i t }
def BM6 (w : TWorld) (i : Nat) (c : V6) : TWorld := { w with Clocks := w.Clocks.set i c }
theorem p6 {α : Type} {l : List α} {i : Nat} {x : α} {P : α → Prop} (h : ∀ y ∈ l, P y) (hx : P x) : ∀ y ∈ l.set i x, P y := fun y hy => by
  rcases List.mem_or_eq_of_mem_set hy with hy | rfl
  · exact h y hy
  · exact hx
theorem c3 {w : TWorld} (h : WI w) {i : Nat} {g : TGroup} (hg : WG g) : WI (wGroup w i g) ∧ WS w (wGroup w i g) := by
  have hl : (w.Groups.set i g).length = w.Groups.length := List.length_set ..
  refine ⟨⟨?_, ?_, ?_, ?_, ?_, p6 h.groups hg, ?_, ?_, h.now, h.count⟩, ⟨rfl, hl, rfl, rfl, rfl, rfl⟩⟩ <;> unfold wGroup <;> dsimp only <;> rw [hl]
  · exact h.n
  · exact h.clocks
  · exact h.cuts
  · exact h.locks
  · exact h.promised
  · exact h.txns
  · exact h.looks
theorem Bh7 {w : TWorld} (h : WI w) {i : Nat} {l : List I0} (hg : s3 l) : WI (wLocks w i l) ∧ WS w (wLocks w i l) :=
  ⟨⟨h.n, h.clocks, h.cuts, ⟨(List.length_set ..).trans h.locks.1, p6 h.locks.2 hg⟩, h.promised, h.groups, h.txns, h.looks, h.now, h.count⟩, ⟨rfl, rfl, rfl, rfl, rfl, rfl⟩⟩
theorem Bv1 {w : TWorld} (h : WI w) {i : Nat} {p : Int} (hp : 0 ≤ p ∧ p ≤ 1000000) : WI (AD4 w i p) ∧ WS w (AD4 w i p) :=
  ⟨⟨h.n, h.clocks, h.cuts, h.locks, ⟨(List.length_set ..).trans h.promised.1, p6 h.promised.2 hp⟩, h.groups, h.txns, h.looks, h.now, h.count⟩, ⟨rfl, rfl, rfl, rfl, rfl, rfl⟩⟩
theorem AT9 {w : TWorld} (h : WI w) {i : Nat} {t : A3} (ht : Av7 w.Groups.length w.Count t) : WI (wTxn w i t) ∧ WS w (wTxn w i t) :=
  ⟨⟨h.n, h.clocks, h.cuts, h.locks, h.promised, h.groups, ⟨by show (w.Txns.set i t).length ≤ 6; rw [List.length_set]; exact h.txns.1, p6 h.txns.2 ht⟩, h.looks, h.now, h.count⟩, ⟨rfl, rfl, List.length_set .., rfl, rfl, rfl⟩⟩
theorem BP5 {w : TWorld} (h : WI w) {i : Nat} {t : A2} (ht : LkOk w.Groups.length w.Count t) : WI (wLook w i t) ∧ WS w (wLook w i t) :=
  ⟨⟨h.n, h.clocks, h.cuts, h.locks, h.promised, h.groups, h.txns, ⟨by show (w.Looks.set i t).length ≤ 4; rw [List.length_set]; exact h.looks.1, p6 h.looks.2 ht⟩, h.now, h.count⟩, ⟨rfl, rfl, rfl, List.length_set .., rfl, rfl⟩⟩
theorem wi_clock {w : TWorld} (h : WI w) {i : Nat} {c : V6} (hc : -5 ≤ c.Off ∧ c.Off ≤ 5) : WI (BM6 w i c) ∧ WS w (BM6 w i c) :=
  ⟨⟨h.n, ⟨(List.length_set ..).trans h.clocks.1, p6 h.clocks.2 hc⟩, h.cuts, h.locks, h.promised, h.groups, h.txns, h.looks, h.now, h.count⟩, ⟨rfl, rfl, rfl, rfl, rfl, rfl⟩⟩
theorem wi_now {w : TWorld} (h : WI w) {n : Int} (hn : 0 ≤ n ∧ n ≤ 100000) : WI { w with Now := n } := ⟨h.n, h.clocks, h.cuts, h.locks, h.promised, h.groups, h.txns, h.looks, hn, h.count⟩
theorem wi_count {w : TWorld} (h : WI w) (hc : w.Count < 1000000) : WI { w with Count := w.Count + 1 } ∧ WQ { w with Count := w.Count + 1 } := by
  have h0 := h.count
  refine ⟨⟨h.n, h.clocks, h.cuts, h.locks, h.promised, h.groups, ⟨h.txns.1, fun t ht => ?_⟩, ⟨h.looks.1, fun t ht => ?_⟩, h.now, by dsimp only; omega⟩, ⟨fun t ht => ?_, fun t ht => ?_⟩⟩
  · have := h.txns.2 t ht; exact ⟨this.terms, this.ops, this.got, by dsimp only; have := this.span; omega⟩
  · have := h.looks.2 t ht; exact ⟨this.node, this.keys, this.got, by dsimp only; have := this.span; omega, this.time⟩
  · have := (h.txns.2 t ht).span; dsimp only; omega
  · have := (h.looks.2 t ht).span; dsimp only; omega
def t5 (l : List J4) : List L2 := l.map J4.Rec
def Av8 (l : List J4) (n : Nat) : G6 := stFrom d6 (t5 (l.take n))
def AR5 (g : TGroup) : F0 := g.Reps.foldl (fun b r => if b.Sure < r.Sure then r else b) (repAt g 0)
def AJ0 (g : TGroup) : G6 := Av8 (AR5 g).Log (AR5 g).Sure.toNat
def q7 (g : TGroup) : Bool := decide (0 ≤ g.Lead) && ((repAt g g.Lead).Log.take (repAt g g.Lead).Sure.toNat).any fun e => e.Term == g.Term
def leadSure (g : TGroup) : G6 := Av8 (repAt g g.Lead).Log (repAt g g.Lead).Sure.toNat
def leadFull (g : TGroup) : G6 := Av8 (repAt g g.Lead).Log (repAt g g.Lead).Log.length
theorem CG9 {r : F0} {t : Int} (h : GR r t) (n : Nat) : (∀ x ∈ t5 (r.Log.take n), goodRec x = true) ∧ (t5 (r.Log.take n)).length ≤ 60 := by
  refine ⟨fun x hx => ?_, ?_⟩
  · obtain ⟨e, he, rfl⟩ := List.mem_map.1 hx
    exact (h.ents e (List.mem_of_mem_take he)).2.2
  · unfold t5
    rw [A5]
    exact Nat.le_trans (List.length_take_le' _ _) h.len
theorem AN9 {r : F0} {t : Int} (h : GR r t) (n : Nat) : GS (Av8 r.Log n) := Bu9 Ax6 (CG9 h n).1
theorem Bh8 : ∀ {l : List F0} {b : F0}, l.foldl (fun b r => if b.Sure < r.Sure then r else b) b = b ∨ l.foldl (fun b r => if b.Sure < r.Sure then r else b) b ∈ l
  | [], b => .inl rfl
  | r :: l, b => by
    rw [List.foldl_cons]
    rcases Bh8 (l := l) (b := if b.Sure < r.Sure then r else b) with h | h
    · rw [h]
      split
      · exact .inr List.mem_cons_self
      · exact .inl rfl
    · exact .inr (List.mem_cons_of_mem _ h)
theorem Bv2 {g : TGroup} (h : GG g) : AR5 g ∈ g.Reps := by
  rcases Bh8 (l := g.Reps) (b := repAt g 0) with e | e
  · unfold AR5; rw [e]
    exact f7 ⟨Int.le_refl 0, by rcases h.many with k | k <;> omega⟩
  · exact e
theorem BV2 {g : TGroup} (h : GG g) : GS (AJ0 g) := AN9 (h.reps _ (Bv2 h)) _
theorem AX5 {g : TGroup} (h : GG g) (hl : 0 ≤ g.Lead) : 0 ≤ g.Lead ∧ g.Lead < g.Reps.length := by
  rcases h.lead with e | ⟨a, b, _⟩
  · omega
  · exact ⟨a, b⟩
theorem AJ5 {g : TGroup} (h : GG g) (hl : 0 ≤ g.Lead) : GS (leadSure g) := AN9 (h.reps _ (f7 (AX5 h hl))) _
theorem n6 {g : TGroup} (h : GG g) (hl : 0 ≤ g.Lead) : GS (leadFull g) := AN9 (h.reps _ (f7 (AX5 h hl))) _
theorem k6 {g : TGroup} (h : q7 g = true) : 0 ≤ g.Lead := by
  unfold q7 at h
  rw [Bool.and_eq_true, decide_eq_true_eq] at h
  exact h.1
structure StK (s : G6) : Prop where
  cells : ∀ c ∈ s.Cells, c.Key ∈ keyD
  held : ∀ h ∈ s.Held, ∀ w ∈ h.Writes, w.Key ∈ keyD
theorem BV3 {α : Type} {r : α → α → Prop} (asym : ∀ x y, r x y → ¬ r y x) : ∀ {a b : List α}, a.Pairwise r → b.Pairwise r → (∀ x, x ∈ a ↔ x ∈ b) → a = b
  | [], [], _, _, _ => rfl
  | [], y :: b, _, _, h => by have := (h y).2 List.mem_cons_self; cases this
  | x :: a, [], _, _, h => by have := (h x).1 List.mem_cons_self; cases this
  | x :: a, y :: b, ha, hb, h => by
    obtain ⟨a1, a2⟩ := List.pairwise_cons.1 ha
    obtain ⟨b1, b2⟩ := List.pairwise_cons.1 hb
    have hxy : x = y := by
      rcases List.mem_cons.1 ((h x).1 List.mem_cons_self) with e | e
      · exact e
      · rcases List.mem_cons.1 ((h y).2 List.mem_cons_self) with e2 | e2
        · exact e2.symm
        · exact (asym _ _ (a1 y e2) (b1 x e)).elim
    subst hxy
    congr 1
    refine BV3 asym a2 b2 fun z => ⟨fun hz => ?_, fun hz => ?_⟩
    · rcases List.mem_cons.1 ((h z).1 (List.mem_cons_of_mem _ hz)) with e | e
      · subst e; exact (asym _ _ (a1 z hz) (a1 z hz)).elim
      · exact e
    · rcases List.mem_cons.1 ((h z).2 (List.mem_cons_of_mem _ hz)) with e | e
      · subst e; exact (asym _ _ (b1 z hz) (b1 z hz)).elim
      · exact e
def lookW (l : List A9) (k : Str) : Option A9 := l.find? fun w => w.Key == k
theorem n9 {l : List A9} {k : Str} {w : A9} (h : lookW l k = some w) : w ∈ l ∧ w.Key = k := by
  unfold lookW at h
  exact ⟨List.mem_of_find?_eq_some h, by simpa using List.find?_some h⟩
theorem Am6 {l : List A9} {k : Str} (h : lookW l k = none) : ∀ w ∈ l, w.Key ≠ k := fun w hw e => by
  have := List.find?_eq_none.1 h w hw
  simp [e] at this
theorem Bv3 {x y : A9} : ∀ {l : List A9}, l.Pairwise (fun a b => wLess a b = true) → x ∈ l → y ∈ l → x.Key = y.Key → x = y
  | [], _, h, _, _ => by cases h
  | z :: l, hp, hx, hy, e => by
    obtain ⟨h1, h2⟩ := List.pairwise_cons.1 hp
    rcases List.mem_cons.1 hx with ex | hx'
    · rcases List.mem_cons.1 hy with ey | hy'
      · rw [ex, ey]
      · exfalso; have := h1 y hy'; unfold wLess at this; rw [← ex, e, I1] at this; cases this
    · rcases List.mem_cons.1 hy with ey | hy'
      · exfalso; have := h1 x hx'; unfold wLess at this; rw [← ey, e, I1] at this; cases this
      · exact Bv3 h2 hx' hy' e
theorem Am7 {α : Type} {p q : α → Bool} : ∀ {l : List α}, (∀ x ∈ l, p x = q x) → l.all p = l.all q
  | [], _ => rfl
  | x :: l, h => by rw [List.all_cons, List.all_cons, h x List.mem_cons_self, Am7 fun y hy => h y (List.mem_cons_of_mem _ hy)]
theorem AU0 {l : List A9} (ha : adj wLess l = true) {w : A9} (hw : w ∈ l) : lookW l w.Key = some w := by
  cases h : lookW l w.Key with
  | none => exact absurd rfl (Am6 h w hw)
  | some x =>
    obtain ⟨hx, hk⟩ := n9 h
    have hp := (j6 W0).1 ha
    by_cases e : x = w
    · rw [e]
    · exact absurd (Bv3 hp hx hw hk) e
theorem rows_ext {a b : List A9} (ha : adj wLess a = true) (hb : adj wLess b = true) (h : ∀ k, lookW a k = lookW b k) : a = b := by
  refine BV3 (r := fun x y => wLess x y = true) (fun x y hxy hyx => ?_) ((j6 W0).1 ha) ((j6 W0).1 hb) fun x => ⟨fun hx => ?_, fun hx => ?_⟩
  · have := W0 _ _ _ hxy hyx
    unfold wLess at this; rw [I1] at this; cases this
  · have := AU0 ha hx; rw [h] at this; exact (n9 this).1
  · have := AU0 hb hx; rw [← h] at this; exact (n9 this).1
theorem Ac7 (w : A9) (k : Str) : ∀ {l : List A9}, adj wLess l = true → lookW (ins l w) k = if w.Key = k then some w else lookW l k
  | [], _ => by
    unfold ins lookW
    by_cases h : w.Key = k
    · rw [if_pos h, List.find?_cons_of_pos w4]
    · rw [if_neg h, List.find?_cons_of_neg w4]
  | x :: l, ha => by
    have hp := (j6 W0).1 ha
    rw [List.pairwise_cons] at hp
    have ih := Ac7 w k (l := l) ((j6 W0).2 hp.2)
    unfold ins
    split
    · rename_i hx
      unfold lookW at ih ⊢
      by_cases hk : x.Key = k
      · rw [List.find?_cons_of_pos (by simpa using hk), List.find?_cons_of_pos (by simpa using hk)]
        by_cases h : w.Key = k
        · exfalso; rw [hk, h, I1] at hx; cases hx
        · rw [if_neg h]
      · rw [List.find?_cons_of_neg (by simpa using hk), List.find?_cons_of_neg (by simpa using hk), ih]
    · split
      · rename_i _ hx
        unfold lookW
        by_cases h : w.Key = k
        · rw [if_pos h, List.find?_cons_of_pos w4]
        · rw [if_neg h, List.find?_cons_of_neg w4, List.find?_cons_of_neg (by rw [hx]; simpa using h)]
      · unfold lookW
        by_cases h : w.Key = k
        · rw [if_pos h, List.find?_cons_of_pos w4]
        · rw [if_neg h, List.find?_cons_of_neg w4]
theorem Am8 {k : Str} : ∀ {ws l : List A9}, adj wLess l = true → k ∉ M2 ws → lookW (insL l ws) k = lookW l k
  | [], _, _, _ => rfl
  | w :: ws, l, ha, h => by
    unfold M2 at h
    rw [List.map_cons, List.mem_cons, not_or] at h
    show lookW (insL (ins l w) ws) k = _
    rw [Am8 (r7 ha) h.2, Ac7 w k ha, if_neg (fun e => h.1 e.symm)]
theorem Bv4 {k : Str} : ∀ {ws l m : List A9}, adj wLess l = true → adj wLess m = true → k ∈ M2 ws → lookW (insL l ws) k = lookW (insL m ws) k
  | [], _, _, _, _, h => by cases h
  | w :: ws, l, m, ha, hb, h => by
    show lookW (insL (ins l w) ws) k = lookW (insL (ins m w) ws) k
    by_cases hk : k ∈ M2 ws
    · exact Bv4 (r7 ha) (r7 hb) hk
    · unfold M2 at h
      rw [List.map_cons, List.mem_cons] at h
      rcases h with h | h
      · rw [Am8 (r7 ha) hk, Am8 (r7 hb) hk, Ac7 w k ha, Ac7 w k hb, if_pos h.symm, if_pos h.symm]
      · exact absurd h hk
theorem Bo9 {l : List A9} (ha : adj wLess l = true) (k : Str) : lookW (q6 l) k = (lookW l k).filter fun w => !w.Gone := by
  have hl : adj wLess (q6 l) = true := BH5 _ ha
  cases h : lookW l k with
  | none =>
    rw [Option.filter_none]
    cases h2 : lookW (q6 l) k with
    | none => rfl
    | some x =>
      obtain ⟨hx, hk⟩ := n9 h2
      exact absurd hk (Am6 h x (List.mem_filter.1 hx).1)
  | some w =>
    obtain ⟨hw, hk⟩ := n9 h
    cases hg : w.Gone with
    | false =>
      have : w ∈ q6 l := List.mem_filter.2 ⟨hw, by rw [hg]; rfl⟩
      have h3 := AU0 hl this
      rw [hk] at h3
      rw [h3, Option.filter_some, if_pos (by rw [hg]; rfl)]
    | true =>
      rw [Option.filter_some, if_neg (by rw [hg]; decide)]
      cases h2 : lookW (q6 l) k with
      | none => rfl
      | some x =>
        obtain ⟨hx, hk2⟩ := n9 h2
        obtain ⟨hx1, hx2⟩ := List.mem_filter.1 hx
        have h4 := AU0 ha hx1
        rw [hk2, h] at h4
        injection h4 with h4
        subst h4
        rw [hg] at hx2; cases hx2
def putD (rows ws : List A9) : List A9 := q6 (insL rows ws)
theorem AQ3 {rows ws : List A9} (h : adj wLess rows = true) : adj wLess (putD rows ws) = true := BH5 _ (BD3 h)
theorem As6 {rows ws : List A9} (h : adj wLess rows = true) (k : Str) : lookW (putD rows ws) k = (lookW (insL rows ws) k).filter fun w => !w.Gone := Bo9 (BD3 h) k
def AP1 (l : List A9) : Prop := adj wLess l = true ∧ (∀ w ∈ l, w.Gone = false ∧ t3 w = true)
theorem CH0 {rows : List A9} (h : AP1 rows) (k : Str) : (lookW rows k).filter (fun w => !w.Gone) = lookW rows k := by
  cases e : lookW rows k with
  | none => rfl
  | some w => rw [Option.filter_some, if_pos (by rw [(h.2 w (n9 e).1).1]; rfl)]
theorem AQ4 {rows ws : List A9} (h : AP1 rows) {k : Str} (hk : k ∉ M2 ws) : lookW (putD rows ws) k = lookW rows k := by
  rw [As6 h.1, Am8 h.1 hk, CH0 h]
theorem Bv5 {rows rows' ws : List A9} (h : AP1 rows) (h' : AP1 rows') {k : Str} (hk : k ∈ M2 ws) : lookW (putD rows ws) k = lookW (putD rows' ws) k := by
  rw [As6 h.1, As6 h'.1, Bv4 h.1 h'.1 hk]
theorem BP6 {rows ws : List A9} (h : AP1 rows) (hw : ∀ w ∈ ws, t3 w = true) : AP1 (putD rows ws) := by
  refine ⟨AQ3 h.1, fun w hm => ?_⟩
  obtain ⟨h1, h2⟩ := List.mem_filter.1 hm
  refine ⟨by simpa using h2, ?_⟩
  rcases Al7 h1 with h3 | h3
  · exact hw w h3
  · exact (h.2 w h3).2
theorem CH1 {rows a b : List A9} (h : AP1 rows) (ha : ∀ w ∈ a, t3 w = true) (hb : ∀ w ∈ b, t3 w = true) (hd : ∀ k, k ∈ M2 a → k ∉ M2 b) : putD (putD rows a) b = putD (putD rows b) a := by
  have h1 := BP6 h ha
  have h2 := BP6 h hb
  refine rows_ext (AQ3 h1.1) (AQ3 h2.1) fun k => ?_
  by_cases hka : k ∈ M2 a
  · rw [AQ4 h1 (hd k hka), Bv5 h2 h hka]
  · rw [AQ4 h2 hka]
    by_cases hkb : k ∈ M2 b
    · exact Bv5 h1 h hkb
    · rw [AQ4 h1 hkb, AQ4 h hka, AQ4 h hkb]
def Ae1 (g : G4) : Bool := goodKey g.Key && isStored g.Val (!g.There)
def AB6 (p : List G4) : List G4 → Bool
  | [] => true
  | g :: l => (Ae1 g && !(p.any fun h => h.Key == g.Key)) && AB6 (p ++ [g]) l
def AC1 (l : List G4) : Bool := AB6 [] l && decide ((l.length : Int) ≤ 8)
def W5 (d : C5) : Bool := (((((isTxn d.Txn && within d.Begin 0 1000000) && (d.End == -1 || within d.End (d.Begin + 1) 1000000)) && (!d.Look || (d.Yes && ((d.Writes.length : Int) == 0)))) && isTrue d.Time) && AC1 d.Got) && goodWrites d.Writes
def goodHist (h : List C5) : Bool := decide ((h.length : Int) ≤ 10) && h.all W5
def ahead (a b : C5) : Bool := (a.End != -1) && decide (a.End < b.Begin)
def zDeed : C5 := ⟨0, 0, 0, false, false, 0, [], []⟩
def deedAt (h : List C5) (n : Int) : C5 := (h[n.toNat]?).getD zDeed
def idxF9 (m : Int) (p : List Int) : List Int → Bool
  | [] => true
  | n :: o => (within n 0 (m - 1) && !(p.any fun x => n == x)) && idxF9 m (p ++ [n]) o
def Y2 (h : List C5) (o : List Int) : Bool := idxF9 (h.length : Int) [] o && goodHist h
def tell (rows : List A9) (k : Str) : G4 := match lookW rows k with
  | some w => ⟨k, w.Val, true⟩
  | none => ⟨k, [], false⟩
def confirms (rows : List A9) (d : C5) : Bool := d.Got.all fun g => decide (tell rows g.Key = g)
def playO (h : List C5) : List Int → List A9 → Bool → Option (List A9 × Bool)
  | [], rows, r => some (rows, r)
  | n :: o, rows, r =>
    if (deedAt h n).Yes = true then
      (if ((putD rows (deedAt h n).Writes).length : Int) ≤ 24 then playO h o (putD rows (deedAt h n).Writes) (r && confirms rows (deedAt h n)) else none)
    else playO h o rows r
def playR (h : List C5) (o : List Int) : List A9 × Bool × Bool := if Y2 h o = true then (match playO h o [] true with
  | some (rows, r) => (rows, r, true)
  | none => ([], false, false)) else ([], false, false)
def keepsO (h : List C5) : List Int → Bool
  | [] => true
  | n :: o => (o.all fun m => !ahead (deedAt h m) (deedAt h n)) && keepsO h o
def m6 (h : List C5) : List Int := (List.range h.length).filterMap fun i : Nat => if (deedAt h (Int.ofNat i)).Yes = true then some (Int.ofNat i) else none
def AP2 (h : List C5) (o : List Int) : Bool := (m6 h).all fun n => o.any fun x => n == x
def Aa9 (h : List C5) (o : List Int) : Bool × Bool := if Y2 h o = true then ((AP2 h o && keepsO h o) && ((playR h o).2.2 && (playR h o).2.1), true) else (false, false)
def touches (a b : C5) : Bool := overlap a.Writes (b.Got.map G4.Key) b.Writes
def q8 (a b : C5) : Bool := !touches a b && !touches b a
def AD5 (a b : C5) : Bool × Bool := if (W5 a && W5 b) = true then (q8 a b, true) else (false, false)
theorem Bh9 (a b : C5) : AD5 a b = AD5 b a := by
  unfold AD5 q8
  rw [Bool.and_comm (W5 a), Bool.and_comm (!touches a b)]
def AP3 (o : List Int) (k : Nat) : List Int := (o.set k (o.getD (k + 1) 0)).set (k + 1) (o.getD k 0)
def swapR (h : List C5) (o : List Int) (k : Int) : List Int × Bool :=
  if (Y2 h o && within k 0 ((o.length : Int) - 2)) = true then
    (if ((!q8 (deedAt h (o.getD k.toNat 0)) (deedAt h (o.getD (k.toNat + 1) 0)) || ahead (deedAt h (o.getD k.toNat 0)) (deedAt h (o.getD (k.toNat + 1) 0))) || ahead (deedAt h (o.getD (k.toNat + 1) 0)) (deedAt h (o.getD k.toNat 0))) = true then ([], false) else (AP3 o k.toNat, true))
  else ([], false)
theorem BV4 {m : Int} : ∀ {o p : List Int}, idxF9 m p o = true ↔ (∀ n ∈ o, 0 ≤ n ∧ n < m ∧ n ∉ p) ∧ o.Nodup
  | [], p => by simp [idxF9]
  | n :: o, p => by
    unfold idxF9 within
    rw [Bool.and_eq_true, BV4, List.nodup_cons]
    simp only [Bool.and_eq_true, decide_eq_true_eq, Bool.not_eq_true', List.any_eq_false, beq_iff_eq, List.mem_append, List.mem_singleton, not_or]
    constructor
    · rintro ⟨⟨⟨h1, h2⟩, h3⟩, h4, h5⟩
      refine ⟨fun x hx => ?_, fun hn => (h4 n hn).2.2.2 rfl, h5⟩
      rcases List.mem_cons.1 hx with rfl | hx
      · exact ⟨h1, by omega, fun hp => h3 _ hp rfl⟩
      · have := h4 x hx; exact ⟨this.1, this.2.1, this.2.2.1⟩
    · rintro ⟨h1, h2, h3⟩
      have h0 := h1 n List.mem_cons_self
      refine ⟨⟨⟨h0.1, by omega⟩, fun x hx e => h0.2.2 (e ▸ hx)⟩, fun x hx => ?_, h3⟩
      have := h1 x (List.mem_cons_of_mem _ hx)
      exact ⟨this.1, this.2.1, this.2.2, fun e => h2 (e ▸ hx)⟩
theorem AC4 {h : List C5} {o : List Int} : Y2 h o = true ↔ (∀ n ∈ o, 0 ≤ n ∧ n < (h.length : Int)) ∧ o.Nodup ∧ goodHist h = true := by
  unfold Y2
  rw [Bool.and_eq_true, BV4]
  constructor
  · rintro ⟨⟨a, b⟩, c⟩; exact ⟨fun n hn => ⟨(a n hn).1, (a n hn).2.1⟩, b, c⟩
  · rintro ⟨a, b, c⟩; exact ⟨⟨fun n hn => ⟨(a n hn).1, (a n hn).2, List.not_mem_nil⟩, b⟩, c⟩
theorem o0 {h : List C5} {n : Int} (hn : 0 ≤ n ∧ n < (h.length : Int)) : deedAt h n ∈ h ∧ h[n.toNat]? = some (deedAt h n) := by
  unfold deedAt
  have : n.toNat < h.length := by omega
  rw [List.getElem?_eq_getElem this]
  exact ⟨List.getElem_mem _, rfl⟩
theorem f8 {h : List C5} (g : goodHist h = true) {d : C5} (hd : d ∈ h) : W5 d = true := by
  unfold goodHist at g
  rw [Bool.and_eq_true, List.all_eq_true] at g
  exact g.2 d hd
theorem AI6 {d : C5} (h : W5 d = true) : l3Writes d.Writes = true ∧ (∀ w ∈ d.Writes, t3 w = true) ∧ adj wLess d.Writes = true := by
  unfold W5 at h
  simp only [Bool.and_eq_true] at h
  have := h.2
  rw [AJ4] at this
  refine ⟨this, ?_⟩
  unfold l3Writes at this
  simp only [Bool.and_eq_true, List.all_eq_true] at this
  exact ⟨this.1.1, this.1.2⟩
def BM7 (h : List C5) : Prop := ∀ d ∈ h, ∀ w ∈ d.Writes, w.Key ∈ keyD
def rowsK (l : List A9) : Prop := AP1 l ∧ ∀ w ∈ l, w.Key ∈ keyD
theorem keys_len {l : List A9} (h : adj wLess l = true) (hk : ∀ w ∈ l, w.Key ∈ keyD) : l.length ≤ 8 := by
  have h1 : (l.map A9.Key).Nodup := by
    have hp := (j6 W0).1 h
    rw [List.nodup_iff_pairwise_ne, List.pairwise_map]
    exact hp.imp fun {a b} hab e => by unfold wLess at hab; rw [e, I1] at hab; cases hab
  have := BD9 h1 (b := keyD) fun x hx => by
    obtain ⟨w, hw, rfl⟩ := List.mem_map.1 hx
    exact hk w hw
  rw [A5] at this
  exact this
theorem AL8 {rows ws : List A9} (h : rowsK rows) (hw : ∀ w ∈ ws, t3 w = true) (hk : ∀ w ∈ ws, w.Key ∈ keyD) : rowsK (putD rows ws) ∧ (putD rows ws).length ≤ 8 := by
  have h1 := BP6 h.1 hw
  have h2 : ∀ w ∈ putD rows ws, w.Key ∈ keyD := fun w hm => by
    rcases Al7 (List.mem_filter.1 hm).1 with h3 | h3
    · exact hk w h3
    · exact h.2 w h3
  exact ⟨⟨h1, h2⟩, keys_len h1.1 h2⟩
theorem BV5 : rowsK [] := ⟨⟨rfl, fun w hw => by cases hw⟩, fun w hw => by cases hw⟩
theorem U9 {h : List C5} {n : Int} {o : List Int} {rows : List A9} {r : Bool} : playO h (n :: o) rows r = if (deedAt h n).Yes = true then (if ((putD rows (deedAt h n).Writes).length : Int) ≤ 24 then playO h o (putD rows (deedAt h n).Writes) (r && confirms rows (deedAt h n)) else none) else playO h o rows r := rfl
theorem Ac8 {h : List C5} {q : List Int} : ∀ {p : List Int} {rows : List A9} {r : Bool}, playO h (p ++ q) rows r = (playO h p rows r).bind fun x => playO h q x.1 x.2
  | [], rows, r => rfl
  | n :: p, rows, r => by
    rw [AM9, U9, U9]
    split
    · split
      · exact Ac8
      · rfl
    · exact Ac8
theorem BE4 {h : List C5} (g : goodHist h = true) (hk : BM7 h) : ∀ {o : List Int} {rows : List A9} {r : Bool}, (∀ n ∈ o, 0 ≤ n ∧ n < (h.length : Int)) → rowsK rows → ∃ rows' r', playO h o rows r = some (rows', r') ∧ rowsK rows'
  | [], rows, r, _, hr => ⟨rows, r, rfl, hr⟩
  | n :: o, rows, r, ho, hr => by
    have hd := (o0 (ho n List.mem_cons_self)).1
    have hw := AI6 (f8 g hd)
    have hp := AL8 hr hw.2.1 (hk _ hd)
    rw [U9]
    split
    · rw [if_pos qz8]
      exact BE4 g hk (fun x hx => ho x (List.mem_cons_of_mem _ hx)) hp.1
    · exact BE4 g hk (fun x hx => ho x (List.mem_cons_of_mem _ hx)) hr
theorem BV6 {a b : C5} (h : touches a b = false) : (∀ k, k ∈ M2 a.Writes → k ∉ M2 b.Writes) ∧ ∀ g ∈ b.Got, g.Key ∉ M2 a.Writes := by
  unfold touches overlap at h
  rw [List.any_eq_false] at h
  refine ⟨fun k hk hb => ?_, fun g hg hk => ?_⟩
  · obtain ⟨w, hw, rfl⟩ := List.mem_map.1 hk
    obtain ⟨v, hv, e⟩ := List.mem_map.1 hb
    apply h w hw
    rw [Bool.or_eq_true]
    exact .inl (p5.2 ⟨v, hv, e⟩)
  · obtain ⟨w, hw, e⟩ := List.mem_map.1 hk
    apply h w hw
    rw [Bool.or_eq_true]
    exact .inr (AK5.2 (List.mem_map.2 ⟨g, hg, e.symm⟩))
theorem CH2 {a b : List A9} {k : Str} (h : lookW a k = lookW b k) : tell a k = tell b k := by unfold tell; rw [h]
theorem As7 {rows : List A9} (hr : AP1 rows) {a b : C5} (h : touches a b = false) : confirms (putD rows a.Writes) b = confirms rows b := by
  unfold confirms
  refine Am7 fun g hg => ?_
  rw [CH2 (AQ4 hr ((BV6 h).2 g hg))]
theorem CH3 {h : List C5} (g : goodHist h = true) (hk : BM7 h) {x y : Int} (hx : 0 ≤ x ∧ x < (h.length : Int)) (hy : 0 ≤ y ∧ y < (h.length : Int)) (hc : q8 (deedAt h x) (deedAt h y) = true) {q : List Int} {rows : List A9} {r : Bool} (hr : rowsK rows) : playO h (x :: y :: q) rows r = playO h (y :: x :: q) rows r := by
  unfold q8 at hc
  rw [Bool.and_eq_true, Bool.not_eq_true', Bool.not_eq_true'] at hc
  have hdx := (o0 hx).1
  have hdy := (o0 hy).1
  have wx := AI6 (f8 g hdx)
  have wy := AI6 (f8 g hdy)
  have px := AL8 hr wx.2.1 (hk _ hdx)
  have py := AL8 hr wy.2.1 (hk _ hdy)
  have pxy := AL8 px.1 wy.2.1 (hk _ hdy)
  have pyx := AL8 py.1 wx.2.1 (hk _ hdx)
  by_cases hX : (deedAt h x).Yes = true
  · by_cases hY : (deedAt h y).Yes = true
    · rw [U9, if_pos hX, if_pos qz8, U9, if_pos hY, if_pos qz8, U9, if_pos hY, if_pos qz8, U9, if_pos hX, if_pos qz8, CH1 hr.1 wx.2.1 wy.2.1 (BV6 hc.1).1, As7 hr.1 hc.1, As7 hr.1 hc.2]
      congr 1
      cases r <;> cases confirms rows (deedAt h x) <;> cases confirms rows (deedAt h y) <;> rfl
    · rw [U9, if_pos hX, if_pos qz8, U9, if_neg hY, U9, if_neg hY, U9, if_pos hX, if_pos qz8]
  · by_cases hY : (deedAt h y).Yes = true
    · rw [U9, if_neg hX, U9, if_pos hY, if_pos qz8, U9, if_pos hY, if_pos qz8, U9, if_neg hX]
    · rw [U9, if_neg hX, U9, if_neg hY, U9, if_neg hY, U9, if_neg hX]
theorem BI5 {h : List C5} {x y : Int} (h1 : ahead (deedAt h x) (deedAt h y) = false) (h2 : ahead (deedAt h y) (deedAt h x) = false) {q : List Int} : ∀ {p : List Int}, keepsO h (p ++ x :: y :: q) = keepsO h (p ++ y :: x :: q)
  | [] => by
    rw [List.nil_append, List.nil_append]
    unfold keepsO keepsO
    rw [List.all_cons, List.all_cons, h1, h2]
    cases (q.all fun m => !ahead (deedAt h m) (deedAt h x)) <;> cases (q.all fun m => !ahead (deedAt h m) (deedAt h y)) <;> simp
  | n :: p => by
    rw [AM9, AM9]
    unfold keepsO
    rw [BI5 h1 h2 (p := p)]
    congr 1
    rw [List.all_append, List.all_append, List.all_cons, List.all_cons, List.all_cons, List.all_cons]
    congr 1
    rw [← Bool.and_assoc, ← Bool.and_assoc, Bool.and_comm (!ahead (deedAt h x) _)]
theorem BV7 {o : List Int} {k : Nat} (h : k + 1 < o.length) : ∃ p q, o = p ++ o.getD k 0 :: o.getD (k + 1) 0 :: q ∧ p.length = k ∧ AP3 o k = p ++ o.getD (k + 1) 0 :: o.getD k 0 :: q := by
  refine ⟨o.take k, o.drop (k + 2), ?_, by rw [H2]; omega, ?_⟩
  · have e1 : o.drop k = o.getD k 0 :: o.drop (k + 1) := by
      rw [List.getD_eq_getElem?_getD, List.getElem?_eq_getElem qz8]
      exact List.drop_eq_getElem_cons qz8
    have e2 : o.drop (k + 1) = o.getD (k + 1) 0 :: o.drop (k + 2) := by
      rw [List.getD_eq_getElem?_getD, List.getElem?_eq_getElem h]
      exact List.drop_eq_getElem_cons h
    rw [← e2, ← e1, List.take_append_drop]
  · unfold AP3
    apply List.ext_getElem?
    intro i
    rw [List.getElem?_set, List.getElem?_set, List.length_set]
    have hl : (o.take k).length = k := by rw [H2]; omega
    by_cases h1 : i < k
    · rw [if_neg qz8, if_neg qz8, List.getElem?_append_left qz8, List.getElem?_take_of_lt h1]
    · rw [List.getElem?_append_right qz8, hl]
      by_cases h2 : i = k
      · subst h2
        rw [if_neg qz8, if_pos rfl, if_pos qz8, Nat.sub_self]; rfl
      · by_cases h3 : i = k + 1
        · subst h3
          rw [if_pos rfl, if_pos h, show k + 1 - k = 1 by omega]; rfl
        · obtain ⟨j, rfl⟩ : ∃ j, i = k + 2 + j := ⟨i - k - 2, by omega⟩
          rw [if_neg qz8, if_neg qz8, show k + 2 + j - k = j + 2 by omega]
          simp only [AV6, List.getElem?_drop]
theorem swap_ok {h : List C5} {o l : List Int} {k : Int} (e : swapR h o k = (l, true)) (hk : BM7 h) : Aa9 h o = Aa9 h l ∧ (Aa9 h o).2 = true ∧ swapR h l k = (o, true) := by
  unfold swapR at e
  split at e
  · rename_i hc
    rw [Bool.and_eq_true] at hc
    obtain ⟨ho, hkk⟩ := hc
    unfold within at hkk
    rw [Bool.and_eq_true, decide_eq_true_eq, decide_eq_true_eq] at hkk
    split at e
    · cases e
    · rename_i hn
      injection e with e _
      rw [Bool.not_eq_true, Bool.or_eq_false_iff, Bool.or_eq_false_iff, Bool.not_eq_false'] at hn
      obtain ⟨⟨n1, n2⟩, n3⟩ := hn
      obtain ⟨p, q, h1, h2, h3⟩ := BV7 (o := o) (k := k.toNat) qz8
      obtain ⟨o1, o2, o3⟩ := AC4.1 ho
      generalize hx : o.getD k.toNat 0 = x at *
      generalize hy : o.getD (k.toNat + 1) 0 = y at *
      rw [h3] at e
      subst e
      have hp : (p ++ y :: x :: q).Perm o := by rw [h1]; exact (List.Perm.swap x y q).append_left p
      have mx : x ∈ o := by rw [h1]; simp
      have my : y ∈ o := by rw [h1]; simp
      have ho2 : Y2 h (p ++ y :: x :: q) = true := AC4.2 ⟨fun n hm => o1 n (hp.mem_iff.1 hm), hp.nodup_iff.2 o2, o3⟩
      have hplay : playO h o [] true = playO h (p ++ y :: x :: q) [] true := by
        rw [h1, Ac8, Ac8]
        obtain ⟨r1, f1, e1, e2⟩ := BE4 o3 hk (o := p) (rows := []) (r := true) (fun n hm => o1 n (by rw [h1]; exact List.mem_append_left _ hm)) BV5
        rw [e1]
        exact CH3 o3 hk (o1 x mx) (o1 y my) n1 e2
      have hall : AP2 h o = AP2 h (p ++ y :: x :: q) := by
        unfold AP2
        refine Am7 fun n _ => ?_
        rw [Bool.eq_iff_iff, List.any_eq_true, List.any_eq_true]
        constructor
        · rintro ⟨z, hz, e⟩; exact ⟨z, hp.mem_iff.2 hz, e⟩
        · rintro ⟨z, hz, e⟩; exact ⟨z, hp.mem_iff.1 hz, e⟩
      have hkeep : keepsO h o = keepsO h (p ++ y :: x :: q) := by rw [h1]; exact BI5 n2 n3
      have hpr : playR h o = playR h (p ++ y :: x :: q) := by unfold playR; rw [ho, ho2, hplay]
      refine ⟨?_, ?_, ?_⟩
      · unfold Aa9; rw [ho, ho2, hall, hkeep, hpr]
      · unfold Aa9; rw [if_pos ho]
      · have hlen : (p ++ y :: x :: q).length = o.length := hp.length_eq
        have g0 : (p ++ y :: x :: q).getD k.toNat 0 = y := by rw [← h2, List.getD_eq_getElem?_getD, List.getElem?_append_right (Nat.le_refl _), Nat.sub_self]; rfl
        have g1 : (p ++ y :: x :: q).getD (k.toNat + 1) 0 = x := by rw [← h2, List.getD_eq_getElem?_getD, List.getElem?_append_right qz8, show p.length + 1 - p.length = 1 by omega]; rfl
        unfold swapR
        rw [if_pos (by rw [ho2, hlen]; unfold within; simp; omega), g0, g1]
        have nc : q8 (deedAt h y) (deedAt h x) = true := by unfold q8 at n1 ⊢; rw [Bool.and_comm]; exact n1
        rw [if_neg (by rw [nc, n2, n3]; decide)]
        obtain ⟨p', q', k1, k2, k3⟩ := BV7 (o := p ++ y :: x :: q) (k := k.toNat) qz8
        rw [g0, g1] at k1 k3
        rw [k3]
        have := List.append_inj k1 qz8
        obtain ⟨rfl, e2⟩ := this
        injection e2 with _ e2
        injection e2 with _ e2
        subst e2
        rw [← h1]
  · cases e
theorem mem_yes {h : List C5} {n : Int} : n ∈ m6 h ↔ (0 ≤ n ∧ n < (h.length : Int)) ∧ (deedAt h n).Yes = true := by
  unfold m6
  rw [List.mem_filterMap]
  constructor
  · rintro ⟨i, hi, e⟩
    rw [List.mem_range] at hi
    split at e
    · injection e with e; subst e; exact ⟨⟨Int.natCast_nonneg i, show (i : Int) < _ by omega⟩, ‹_›⟩
    · cases e
  · rintro ⟨h1, h2⟩
    refine ⟨n.toNat, List.mem_range.2 qz8, ?_⟩
    rw [show Int.ofNat n.toNat = n from Int.toNat_of_nonneg h1.1, if_pos h2]
theorem yes_len (h : List C5) : (m6 h).length ≤ h.length := by
  unfold m6
  exact Nat.le_trans (List.length_filterMap_le _ _) (by rw [List.length_range]; exact Nat.le_refl _)
def leS (c k : Str) : Bool := Op.bytesLess c k || c == k
def partW (l : List Str) (k : Str) : Nat := (l.takeWhile fun c => leS c k).length
def l15Cuts (l : List Str) : Bool := (l.all l3Key && adj Op.bytesLess l) && decide ((l.length : Int) < 4)
theorem Am9 (l : List Str) (k : Str) : partW l k ≤ l.length := (List.takeWhile_sublist _).length_le
theorem BE5 {k : Str} : ∀ {l : List Str} {i : Nat} {c : Str}, l[i]? = some c → (i < partW l k → leS c k = true) ∧ (i = partW l k → leS c k = false)
  | [], i, c, h => by simp at h
  | d :: l, i, c, h => by
    unfold partW
    cases hd : leS d k with
    | true =>
      rw [List.takeWhile_cons_of_pos (p := fun c => leS c k) hd, H6]
      cases i with
      | zero => simp at h; subst h; exact ⟨fun _ => hd, fun e => by omega⟩
      | succ i =>
        have ih := BE5 (k := k) (l := l) (i := i) (c := c) w4
        unfold partW at ih
        exact ⟨fun hl => ih.1 qz8, fun e => ih.2 qz8⟩
    | false =>
      rw [List.takeWhile_cons_of_neg (p := fun c => leS c k) (by rw [hd]; decide)]
      refine ⟨fun hl => by simp at hl, fun e => ?_⟩
      simp at e; subst e
      simp at h; subst h; exact hd
def lookKeys (l : List Str) : Bool := within (l.length : Int) 1 8 && areRising l
def goodTxnW (w : TWorld) (t : A3) : Bool := ((((((goodOps t.Ops && decide (0 < (t.Ops.length : Int))) && AC1 t.Got) && ((t.Terms.length : Int) == (w.Groups.length : Int))) && (t.Terms.all fun n => within n 0 200)) && within t.Begin (-1) w.Count) && within t.End (-1) w.Count) && isTrue t.Time
def CL0 (l : List G4) (ks : List Str) : Bool := (List.range l.length).all fun i => match l[i]?, ks[i]? with
  | some g, some k => g.Key == k
  | _, _ => false
def CL1 (w : TWorld) (l : A2) : Bool := (((((((within l.Node 0 ((w.Clocks.length : Int) - 1) && lookKeys l.Keys) && decide ((l.Got.length : Int) ≤ (l.Keys.length : Int))) && AC1 l.Got) && CL0 l.Got l.Keys) && isTrue l.Time) && within l.Begin (-1) w.Count) && within l.End (-1) w.Count)
structure WD9 (w : TWorld) : Prop where
  size : w.size ≤ 1000000
  keys : ∀ g ∈ w.Groups, r5 BM5 g
  ops : ∀ t ∈ w.Txns, ∀ o ∈ t.Ops, o.Key ∈ keyD
  ends : ∀ t ∈ w.Txns, t.End = -1 ∨ t.Begin < t.End
  lends : ∀ l ∈ w.Looks, l.End = -1 ∨ l.Begin < l.End
structure GW (w : TWorld) : Prop where
  cuts : w.Cuts.length ≤ 2 ∧ l15Cuts w.Cuts = true
  groups : w.Groups.length = w.Cuts.length + 1 ∧ ∀ g ∈ w.Groups, GG g ∧ g.Reps.length = 3
  locks : w.Locks.length = w.Cuts.length + 1
  promised : w.Promised.length = w.Cuts.length + 1
  clocks : w.Clocks.length = 3 * (w.Cuts.length + 1) ∧ ∀ c ∈ w.Clocks, -5 ≤ c.Off ∧ c.Off ≤ 5
  now : 0 ≤ w.Now ∧ w.Now ≤ 100000
  count : 0 ≤ w.Count ∧ w.Count ≤ 1000000
  txns : w.Txns.length ≤ 6 ∧ ∀ t ∈ w.Txns, goodTxnW w t = true
  looks : w.Looks.length ≤ 4 ∧ ∀ l ∈ w.Looks, CL1 w l = true
end Go.M
namespace Go.Proofs.YtcfkbhnpfjjmjaaGreat
open Go Go.AV Go.M
attribute [local irreducible] OpW OpA OpS AWP B9 J5 RetOk I9 Le Ev F6
theorem u5 (a b c : Int) : B9 Tryz.prog 25 [AV.int a, AV.int b, AV.int c] (AV.bool (within a b c)) := by
  refine B7 Tryz.func25 rfl Tryz.ntmps25 rfl ?_
  refine R17 ?_
  exact D5 rfl (A6 rfl U6)
theorem N5 (a b c : Int) : B9 Tryz.prog 30 [AV.int a, AV.int b, AV.int c] (AV.bool (within a b c)) := by
  refine B7 Tryz.func30 rfl Tryz.ntmps30 rfl ?_
  refine R17 ?_
  exact D5 rfl (A6 rfl U6)
theorem Bp0 (c : UInt8) : B9 Tryz.prog 138 [AV.byte c] (AV.bool (lowDig c)) := by
  refine B7 Tryz.func138 rfl Tryz.ntmps138 rfl ?_
  refine R23 ?_
  exact D5 rfl (A6 rfl U6)
theorem idxB_ext (s : Str) (c : UInt8) : J5 Tryz.prog 175 [AV.str s, AV.byte c] (AV.int (idxB s c)) := espec_mk fun R w vs h => by
  obtain ⟨v, u, rfl, h1, h2⟩ := denV_two h
  have e1 : v = .string ⟨s.toArray⟩ := h1
  have e2 : u = .int .u8 c.toNat := h2
  subst e1; subst e2
  refine ⟨.int .i64 (idxB s c), ?_, rfl⟩
  rw [run_callFunc_indexByte Tryz.func175 F1 F1 F1 F1, run_indexByte_string]
  simp [idxB]
theorem Bz7 (s : Str) (c : UInt8) : B9 Tryz.prog 159 [AV.str s, AV.byte c] (AV.int (idxB s c)) := by
  refine B7 Tryz.func159 rfl Tryz.ntmps159 rfl ?_
  refine R8 ?_
  refine A4 rfl (w_ext rfl rfl (idxB_ext _ _) (A1 (A0 rfl) (A1 (A0 rfl) A7))) ?_
  refine R3 ?_
  exact D5 rfl (A6 rfl U6)
theorem CH4 (s : Str) (c : UInt8) : B9 Tryz.prog 139 [AV.str s, AV.byte c] (AV.int (idxB s c)) := by
  refine B7 Tryz.func139 rfl Tryz.ntmps139 rfl ?_
  refine R8 ?_
  refine A4 rfl (B2 rfl Tryz.call159 rfl (Bz7 _ _) (A1 (A0 rfl) (A1 (A0 rfl) A7))) ?_
  refine R3 ?_
  exact D5 rfl (A6 rfl U6)
theorem BV8 (s o : Str) (hs : s.length ≤ 4611686018427387904) : B9 Tryz.prog 120 [AV.str s, AV.str o] (AV.bool (hasB s o)) := by
 refine B7 Tryz.func120 rfl Tryz.ntmps120 rfl ?_
 refine R12 ?_
 refine E5 [(0, _), (1, _), (7, _)] _ (fun (i : Nat) => i ≤ s.length ∧ hasB s o = hasB (s.drop i) o) (fun (i : Nat) => []) (fun (i : Nat) => [(8, AV.int i)]) (fun (i : Nat) => s.length - i) (0) ?_ (F2 ⟨rfl, rfl, rfl, rfl, trivial⟩) ?_
 ·exact ⟨Nat.zero_le _, rfl⟩
 intro i hinv
 refine R5 ?_
 refine A8 (A0 rfl) ?_ ?_
 ·intro h9
  have k9 := of_decide_eq_true h9; try simp only [A5] at k9
  have hlt : i < s.length := by have := of_decide_eq_true h9; omega
  obtain ⟨c, hc⟩ := get_some hlt
  refine R12 ?_
  refine A4 rfl (y5 rfl L8 (A0 rfl) (A0 rfl) qz4 k0) ?_
  refine A4 rfl (B2 rfl Tryz.call138 rfl (Bp0 _) (A1 (A0 rfl) A7)) ?_
  refine R5 ?_
  refine L3 rfl (fun hc => y5 rfl L8 (B1 rfl hc) (B1 rfl hc) qz6 k0) ?_
  refine L3 rfl (fun hc => B2 rfl Tryz.call139 rfl (CH4 _ _) (A1 (B1 rfl hc) (A1 (B1 rfl hc) A7))) ?_
  refine R3 ?_
  refine A8 (A0 rfl) ?_ ?_
  ·intro h23
   have hfin : hasB s o = false := by rw [hinv.2, drop_some hc, BT6, h23]; rfl
   refine R5 ?_
   exact D5 rfl (A6 rfl (by first | exact congrArg AV.bool hfin.symm | exact congrArg AV.bool Ai8))
  intro h23
  refine R5 ?_
  refine F3 i (i + 1) ?_ ?_ (F2 ⟨rfl, rfl, rfl, rfl, trivial⟩)
  ·exact ⟨by omega, by rw [hinv.2, drop_some hc, BT6, h23]; rfl⟩
  omega
 intro h9
 have k9 := of_decide_eq_false h9; try simp only [A5] at k9
 have hge : s.length ≤ i := by have := of_decide_eq_false h9; omega
 refine R6 ?_
 exact D5 rfl (A6 rfl (by first | exact congrArg AV.bool hfin.symm | exact congrArg AV.bool Ai8))
theorem As8 (s o : Str) (hs : s.length ≤ 4611686018427387904) (ho : o.length ≤ 4611686018427387904) : B9 Tryz.prog 122 [AV.str s, AV.str o] (AV.bool (l3Bytes s o)) := by
 refine B7 Tryz.func122 rfl Tryz.ntmps122 rfl ?_
 refine R10 ?_
 refine E5 [(0, _), (1, _)] _ (fun (i : Nat) => i ≤ s.length ∧ l3Bytes s o = l3Bytes (s.drop i) o) (fun (i : Nat) => []) (fun (i : Nat) => [(5, AV.int i)]) (fun (i : Nat) => s.length - i) (0) ?_ (F2 ⟨rfl, rfl, rfl, trivial⟩) ?_
 ·exact ⟨Nat.zero_le _, rfl⟩
 intro i hinv
 have hinv0 := hinv; clear hinv
 refine R8 ?_
 refine A8 (A0 rfl) ?_ ?_
 ·intro h11
  have k11 := of_decide_eq_true h11; try simp only [A5] at k11
  have hlt : i < s.length := by have := of_decide_eq_true h11; omega
  obtain ⟨c, hc⟩ := get_some hlt
  refine R7 ?_
  refine A4 rfl (y5 rfl L8 (A0 rfl) (A0 rfl) qz4 k0) ?_
  refine R4 ?_
  refine L3 rfl (fun hc => y5 rfl L8 (B1 rfl hc) (B1 rfl hc) qz6 k0) ?_
  refine R5 ?_
  refine P4 rfl (fun hc => y5 rfl L8 (B1 rfl hc) (B1 rfl hc) qz6 k0) ?_
  refine R4 ?_
  refine f5 rfl rfl (V1 rfl rfl rfl) (fun hc => y5 rfl L8 (B1 rfl hc) (B1 rfl hc) qz6 k0) ?_
  refine R11 ?_
  refine J7 [(0, _), (1, _), (5, _), (8, _), (9, _), (10, _), (11, _), (14, _), (15, _), (16, _), (17, _), (18, _), (23, _), (24, _), (35, _)] _ (fun (k : Nat) (b : Bool) => k ≤ o.length ∧ (lowDig c || o.any fun d => ((c.toNat : Int) == (d.toNat : Int))) = (b || (o.drop k).any fun d => ((c.toNat : Int) == (d.toNat : Int)))) (fun (k : Nat) (b : Bool) => []) (fun (k : Nat) (b : Bool) => [(6, AV.bool b), (7, AV.int k)]) (fun (k : Nat) (b : Bool) => o.length - k) (0) (lowDig c) ?_ (F2 ⟨rfl, rfl, rfl, rfl, rfl, rfl, rfl, rfl, rfl, rfl, rfl, rfl, rfl, rfl, rfl, rfl, rfl, trivial⟩) ?_
  ·exact ⟨Nat.zero_le _, rfl⟩
  intro k b hinv
  refine R8 ?_
  refine A8 (A0 rfl) ?_ ?_
  ·intro h39
   have k39 := of_decide_eq_true h39; try simp only [A5] at k39
   have hlt2 : k < o.length := by have := of_decide_eq_true h39; omega
   obtain ⟨d, hd⟩ := get_some hlt2
   refine R8 ?_
   refine M6 rfl (V7 rfl rfl rfl) (fun hc => y5 rfl L8 (B1 rfl hc) (B1 rfl hc) qz6 k0) ?_
   refine R2 ?_
   refine M6 rfl (V7 rfl rfl rfl) (fun hc => y5 rfl L8 (B1 rfl hc) (B1 rfl hc) qz6 k0) ?_
   refine R9 ?_
   refine G9 k b (k + 1) ((b || ((c.toNat : Int) == (d.toNat : Int)))) ?_ ?_ (F2 ⟨rfl, rfl, rfl, rfl, rfl, rfl, rfl, rfl, rfl, rfl, rfl, rfl, rfl, rfl, rfl, rfl, rfl, trivial⟩)
   ·exact ⟨by omega, by rw [hinv.2, drop_some hd, List.any_cons, Bool.or_assoc]⟩
   omega
  intro h39
  have k39 := of_decide_eq_false h39; try simp only [A5] at k39
  have hge2 : o.length ≤ k := by have := of_decide_eq_false h39; omega
  have hg : (lowDig c || o.any fun d => ((c.toNat : Int) == (d.toNat : Int))) = b := by rw [hinv.2, List.drop_eq_nil_of_le hge2]; simp
  refine R6 ?_
  refine A8 (A0 rfl) ?_ ?_
  ·intro h53
   have hfin : l3Bytes s o = false := by rw [hinv0.2, drop_some hc, Ar4, hg]; cases b <;> simp_all
   refine R5 ?_
   exact D5 rfl (A6 rfl qz160)
  intro h53
  have hb : b = true := by cases b <;> simp_all
  refine R6 ?_
  refine F3 i (i + 1) ?_ ?_ (F2 ⟨rfl, rfl, rfl, trivial⟩)
  ·exact ⟨by omega, by rw [hinv0.2, drop_some hc, Ar4, hg, hb]; rfl⟩
  omega
 intro h11
 have k11 := of_decide_eq_false h11; try simp only [A5] at k11
 have hge : s.length ≤ i := by have := of_decide_eq_false h11; omega
 refine R6 ?_
 exact D5 rfl (A6 rfl qz160)
theorem As9 (s : Str) (hs : s.length ≤ 4611686018427387904) : B9 Tryz.prog 93 [AV.str s] (AV.bool (goodKey s)) := by
  refine B7 Tryz.func93 rfl Tryz.ntmps93 rfl ?_
  refine R8 ?_
  refine A4 rfl (B2 rfl Tryz.call25 rfl (u5 _ _ _) (A1 (A0 rfl) (A1 D8 (A1 D8 A7)))) ?_
  refine R2 ?_
  refine L3 rfl (fun hc => B2 rfl Tryz.call120 rfl (BV8 _ _ qz8) (A1 (B1 rfl hc) (A1 (L4 (l := [46, 47]) rfl) A7))) ?_
  refine R4 ?_
  exact D5 rfl (A6 rfl U6)
theorem Bi0 (s : Str) (hs : s.length ≤ 4611686018427387904) : B9 Tryz.prog 121 [AV.str s] (AV.bool (goodVal s)) := by
  refine B7 Tryz.func121 rfl Tryz.ntmps121 rfl ?_
  refine R11 ?_
  refine L3 rfl (fun hc => B2 rfl Tryz.call120 rfl (BV8 _ _ qz8) (A1 (B1 rfl hc) (A1 (L4 (l := [46, 45, 44, 95]) rfl) A7))) ?_
  refine R4 ?_
  exact D5 rfl (A6 rfl U6)
theorem AA9 (s : Str) (hs : s.length ≤ 4611686018427387904) : B9 Tryz.prog 99 [AV.str s] (AV.bool (l3Key s)) := by
  refine B7 Tryz.func99 rfl Tryz.ntmps99 rfl ?_
  refine R8 ?_
  refine A4 rfl (B2 rfl Tryz.call30 rfl (N5 _ _ _) (A1 (A0 rfl) (A1 D8 (A1 D8 A7)))) ?_
  refine R2 ?_
  refine L3 rfl (fun hc => B2 rfl Tryz.call122 rfl (As8 _ _ qz8 D0) (A1 (B1 rfl hc) (A1 (L4 (l := [46, 47]) rfl) A7))) ?_
  refine R4 ?_
  exact D5 rfl (A6 rfl U6)
theorem AP4 (l : List A9) (pre : A9 → Prop) (f : A9 → Bool) (hp : ∀ x ∈ l, pre x) : B9 Tryz.prog 116 [AV.list 3 (l.map A9.cs), AV.fun1 Tryz.prog pre (fun a => AV.agg a.cs) (fun a => AV.bool (f a))] (AV.int (idxFrom f l 0)) := by
 refine B7 Tryz.func116 rfl Tryz.ntmps116 rfl ?_
 refine S0 (t := 0) rfl fun hl => ?_
 try simp only [A5] at hl
 refine R12 ?_
 refine E5 [(0, _), (1, _), (7, _)] _ (fun (i : Nat) => i ≤ l.length ∧ idxFrom f l 0 = idxFrom f (l.drop i) i) (fun (i : Nat) => []) (fun (i : Nat) => [(8, AV.int i)]) (fun (i : Nat) => l.length - i) (0) ?_ (F2 ⟨rfl, rfl, rfl, rfl, trivial⟩) ?_
 ·exact ⟨Nat.zero_le _, rfl⟩
 intro i hinv
 refine R5 ?_
 refine A8 (A0 rfl) ?_ ?_
 ·intro h9
  have k9 := of_decide_eq_true h9; try simp only [A5] at k9
  have hlt : i < l.length := by omega
  obtain ⟨x, hx⟩ := get_some hlt
  refine R13 ?_
  refine A4 rfl (C7 rfl C0 E9 (A0 rfl) (A0 rfl) hx qz4) ?_
  refine R1 ?_
  refine A4 rfl (AJ9 rfl (A0 rfl) x (hp x (C6 hx)) (A0 rfl)) ?_
  refine R1 ?_
  refine A8 (A0 rfl) ?_ ?_
  ·intro h16
   refine R6 ?_
   exact D5 rfl (A6 rfl AU7)
  intro h16
  refine R5 ?_
  refine F3 i (i + 1) ?_ ?_ (F2 ⟨rfl, rfl, rfl, rfl, trivial⟩)
  ·exact ⟨by omega, by rw [hinv.2, drop_some hx, idxFrom, h16]; simp⟩
  omega
 intro h9
 have k9 := of_decide_eq_false h9; try simp only [A5] at k9
 have hge : l.length ≤ i := by omega
 refine R6 ?_
 exact D5 rfl (A6 rfl AU7)
theorem AI7 (l : List A9) (pre : A9 → Prop) (f : A9 → Bool) (hp : ∀ x ∈ l, pre x) : B9 Tryz.prog 83 [AV.list 3 (l.map A9.cs), AV.fun1 Tryz.prog pre (fun a => AV.agg a.cs) (fun a => AV.bool (f a))] (AV.bool (l.any f)) := by
  refine B7 Tryz.func83 rfl Tryz.ntmps83 rfl ?_
  refine R8 ?_
  refine A4 rfl (B2 rfl Tryz.call116 rfl (AP4 _ _ _ Aq0) (A1 (A0 rfl) (A1 (A0 rfl) A7))) ?_
  refine R4 ?_
  exact D5 rfl (A6 rfl Bd4)
theorem Ay3 (l : List G4) (pre : G4 → Prop) (f : G4 → Bool) (hp : ∀ x ∈ l, pre x) : B9 Tryz.prog 118 [AV.list 3 (l.map G4.cs), AV.fun1 Tryz.prog pre (fun a => AV.agg a.cs) (fun a => AV.bool (f a))] (AV.int (idxFrom f l 0)) := by
 refine B7 Tryz.func118 rfl Tryz.ntmps118 rfl ?_
 refine S0 (t := 0) rfl fun hl => ?_
 try simp only [A5] at hl
 refine R12 ?_
 refine E5 [(0, _), (1, _), (7, _)] _ (fun (i : Nat) => i ≤ l.length ∧ idxFrom f l 0 = idxFrom f (l.drop i) i) (fun (i : Nat) => []) (fun (i : Nat) => [(8, AV.int i)]) (fun (i : Nat) => l.length - i) (0) ?_ (F2 ⟨rfl, rfl, rfl, rfl, trivial⟩) ?_
 ·exact ⟨Nat.zero_le _, rfl⟩
 intro i hinv
 refine R5 ?_
 refine A8 (A0 rfl) ?_ ?_
 ·intro h9
  have k9 := of_decide_eq_true h9; try simp only [A5] at k9
  have hlt : i < l.length := by omega
  obtain ⟨x, hx⟩ := get_some hlt
  refine R13 ?_
  refine A4 rfl (C7 rfl J6 O5 (A0 rfl) (A0 rfl) hx qz4) ?_
  refine R1 ?_
  refine A4 rfl (AJ9 rfl (A0 rfl) x (hp x (C6 hx)) (A0 rfl)) ?_
  refine R1 ?_
  refine A8 (A0 rfl) ?_ ?_
  ·intro h16
   refine R6 ?_
   exact D5 rfl (A6 rfl AU7)
  intro h16
  refine R5 ?_
  refine F3 i (i + 1) ?_ ?_ (F2 ⟨rfl, rfl, rfl, rfl, trivial⟩)
  ·exact ⟨by omega, by rw [hinv.2, drop_some hx, idxFrom, h16]; simp⟩
  omega
 intro h9
 have k9 := of_decide_eq_false h9; try simp only [A5] at k9
 have hge : l.length ≤ i := by omega
 refine R6 ?_
 exact D5 rfl (A6 rfl AU7)
theorem AO0 (l : List G4) (pre : G4 → Prop) (f : G4 → Bool) (hp : ∀ x ∈ l, pre x) : B9 Tryz.prog 86 [AV.list 3 (l.map G4.cs), AV.fun1 Tryz.prog pre (fun a => AV.agg a.cs) (fun a => AV.bool (f a))] (AV.bool (l.any f)) := by
  refine B7 Tryz.func86 rfl Tryz.ntmps86 rfl ?_
  refine R8 ?_
  refine A4 rfl (B2 rfl Tryz.call118 rfl (Ay3 _ _ _ Aq0) (A1 (A0 rfl) (A1 (A0 rfl) A7))) ?_
  refine R4 ?_
  exact D5 rfl (A6 rfl Bd4)
theorem At0 (l : List C5) (pre : C5 → Prop) (f : C5 → Bool) (hp : ∀ x ∈ l, pre x) : B9 Tryz.prog 108 [AV.list 8 (l.map C5.cs), AV.fun1 Tryz.prog pre (fun a => AV.agg a.cs) (fun a => AV.bool (f a))] (AV.int (idxFrom f l 0)) := by
 refine B7 Tryz.func108 rfl Tryz.ntmps108 rfl ?_
 refine S0 (t := 0) rfl fun hl => ?_
 try simp only [A5] at hl
 refine R12 ?_
 refine E5 [(0, _), (1, _), (7, _)] _ (fun (i : Nat) => i ≤ l.length ∧ idxFrom f l 0 = idxFrom f (l.drop i) i) (fun (i : Nat) => []) (fun (i : Nat) => [(8, AV.int i)]) (fun (i : Nat) => l.length - i) (0) ?_ (F2 ⟨rfl, rfl, rfl, rfl, trivial⟩) ?_
 ·exact ⟨Nat.zero_le _, rfl⟩
 intro i hinv
 refine R5 ?_
 refine A8 (A0 rfl) ?_ ?_
 ·intro h9
  have k9 := of_decide_eq_true h9; try simp only [A5] at k9
  have hlt : i < l.length := by omega
  obtain ⟨x, hx⟩ := get_some hlt
  refine R13 ?_
  refine A4 rfl (C7 rfl H5 I3 (A0 rfl) (A0 rfl) hx qz4) ?_
  refine R1 ?_
  refine A4 rfl (AJ9 rfl (A0 rfl) x (hp x (C6 hx)) (A0 rfl)) ?_
  refine R1 ?_
  refine A8 (A0 rfl) ?_ ?_
  ·intro h16
   refine R6 ?_
   exact D5 rfl (A6 rfl AU7)
  intro h16
  refine R5 ?_
  refine F3 i (i + 1) ?_ ?_ (F2 ⟨rfl, rfl, rfl, rfl, trivial⟩)
  ·exact ⟨by omega, by rw [hinv.2, drop_some hx, idxFrom, h16]; simp⟩
  omega
 intro h9
 have k9 := of_decide_eq_false h9; try simp only [A5] at k9
 have hge : l.length ≤ i := by omega
 refine R6 ?_
 exact D5 rfl (A6 rfl AU7)
theorem Ah2 (l : List C5) (pre : C5 → Prop) (f : C5 → Bool) (hp : ∀ x ∈ l, pre x) : B9 Tryz.prog 71 [AV.list 8 (l.map C5.cs), AV.fun1 Tryz.prog pre (fun a => AV.agg a.cs) (fun a => AV.bool (f a))] (AV.bool (l.any f)) := by
  refine B7 Tryz.func71 rfl Tryz.ntmps71 rfl ?_
  refine R8 ?_
  refine A4 rfl (B2 rfl Tryz.call108 rfl (At0 _ _ _ Aq0) (A1 (A0 rfl) (A1 (A0 rfl) A7))) ?_
  refine R4 ?_
  exact D5 rfl (A6 rfl Bd4)
theorem Ay4 (l : List Int) (pre : Int → Prop) (f : Int → Bool) (hp : ∀ x ∈ l, pre x) : B9 Tryz.prog 60 [ints l, AV.fun1 Tryz.prog pre (fun a => AV.int a) (fun a => AV.bool (f a))] (AV.int (idxFrom f l 0)) := by
 refine B7 Tryz.func60 rfl Tryz.ntmps60 rfl ?_
 refine S0 (t := 0) rfl fun hl => ?_
 try simp only [A5] at hl
 refine R12 ?_
 refine E5 [(0, _), (1, _), (7, _)] _ (fun (i : Nat) => i ≤ l.length ∧ idxFrom f l 0 = idxFrom f (l.drop i) i) (fun (i : Nat) => []) (fun (i : Nat) => [(8, AV.int i)]) (fun (i : Nat) => l.length - i) (0) ?_ (F2 ⟨rfl, rfl, rfl, rfl, trivial⟩) ?_
 ·exact ⟨Nat.zero_le _, rfl⟩
 intro i hinv
 refine R5 ?_
 refine A8 (A0 rfl) ?_ ?_
 ·intro h9
  have k9 := of_decide_eq_true h9; try simp only [A5] at k9
  have hlt : i < l.length := by omega
  obtain ⟨x, hx⟩ := get_some hlt
  refine R13 ?_
  refine A4 rfl (C7 rfl B3 B4 (A0 rfl) (A0 rfl) hx qz4) ?_
  refine R1 ?_
  refine A4 rfl (AJ9 rfl (A0 rfl) x (hp x (C6 hx)) (A0 rfl)) ?_
  refine R1 ?_
  refine A8 (A0 rfl) ?_ ?_
  ·intro h16
   refine R6 ?_
   exact D5 rfl (A6 rfl AU7)
  intro h16
  refine R5 ?_
  refine F3 i (i + 1) ?_ ?_ (F2 ⟨rfl, rfl, rfl, rfl, trivial⟩)
  ·exact ⟨by omega, by rw [hinv.2, drop_some hx, idxFrom, h16]; simp⟩
  omega
 intro h9
 have k9 := of_decide_eq_false h9; try simp only [A5] at k9
 have hge : l.length ≤ i := by omega
 refine R6 ?_
 exact D5 rfl (A6 rfl AU7)
theorem An0 (l : List Int) (pre : Int → Prop) (f : Int → Bool) (hp : ∀ x ∈ l, pre x) : B9 Tryz.prog 34 [ints l, AV.fun1 Tryz.prog pre (fun a => AV.int a) (fun a => AV.bool (f a))] (AV.bool (l.any f)) := by
  refine B7 Tryz.func34 rfl Tryz.ntmps34 rfl ?_
  refine R8 ?_
  refine A4 rfl (B2 rfl Tryz.call60 rfl (Ay4 _ _ _ Aq0) (A1 (A0 rfl) (A1 (A0 rfl) A7))) ?_
  refine R4 ?_
  exact D5 rfl (A6 rfl Bd4)
theorem Af3 (l : List A9) (v : Str) (pre : A9 → Str → Prop) (hp : ∀ x ∈ l, pre x v) (f : A9 → Str → Int) (hl2 : l.length ≤ 4611686018427387903) : B9 Tryz.prog 78 [AV.list 3 (l.map A9.cs), AV.str v, AV.fun2 Tryz.prog pre (fun a => AV.agg a.cs) (fun b => AV.str b) (fun a b => AV.int (f a b))] (AV.tup [AV.int (bs (fun x => f x v) l 0 l.length), AV.bool (BR7 (fun x => f x v) l (bs (fun x => f x v) l 0 l.length))]) := by
 refine B7 Tryz.func78 rfl Tryz.ntmps78 rfl ?_
 refine S0 (t := 0) rfl fun hl => ?_
 try simp only [A5] at hl
 refine R19 ?_
 refine J7 [(0, _), (1, _), (2, _), (6, _), (7, _), (8, _)] _ (fun (i : Nat) (j : Nat) => i ≤ j ∧ j ≤ l.length ∧ bs (fun x => f x v) l 0 l.length = bs (fun x => f x v) l i j) (fun (i : Nat) (j : Nat) => []) (fun (i : Nat) (j : Nat) => [(9, AV.int i), (10, AV.int j)]) (fun (i : Nat) (j : Nat) => j - i) (0) ((l.map A9.cs).length) ?_ (F2 ⟨rfl, rfl, rfl, rfl, rfl, rfl, rfl, rfl, trivial⟩) ?_
 ·exact ⟨Nat.zero_le _, by simp, by simp⟩
 intro i j hinv
 refine R7 ?_
 refine A8 (A0 rfl) ?_ ?_
 ·intro h17
  have k17 := of_decide_eq_true h17; try simp only [A5] at k17
  have hlt : i < j := by omega
  obtain ⟨x, hx⟩ := get_some (show (i + j) / 2 < l.length by omega)
  refine R6 ?_
  refine A4 rfl (Ag0 rfl (A0 rfl) (A0 rfl) qz8) ?_
  refine A4 rfl (AH8 rfl F1 Tryz.underlying95 (A0 rfl)) ?_
  refine A4 rfl (w_shr rfl (A0 rfl) D8 D0 D0) ?_
  refine A4 rfl (AH8 rfl F1 d4 (A0 rfl)) ?_
  refine R4 ?_
  rw [half_eq qz8]
  refine R3 ?_
  refine A4 rfl (C7 rfl C0 E9 (A0 rfl) (A0 rfl) hx qz4) ?_
  refine R2 ?_
  refine A4 rfl (Be9 rfl (A0 rfl) x v (hp x (C6 hx)) (A0 rfl) (A0 rfl)) ?_
  refine R2 ?_
  refine A8 (A0 rfl) ?_ ?_
  ·intro h31
   have k31 := of_decide_eq_true h31; try simp only [A5] at k31
   refine R5 ?_
   refine AD6 ?_
   refine G9 i j ((i + j) / 2 + 1) (j) ?_ ?_ (F2 ⟨rfl, rfl, rfl, rfl, rfl, rfl, rfl, rfl, trivial⟩)
   ·exact ⟨by omega, by omega, by rw [hinv.2.2, bs_lo hlt hx k31]⟩
   omega
  intro h31
  have k31 := of_decide_eq_false h31; try simp only [A5] at k31
  refine R4 ?_
  refine AD6 ?_
  refine G9 i j (i) ((i + j) / 2) ?_ ?_ (F2 ⟨rfl, rfl, rfl, rfl, rfl, rfl, rfl, rfl, trivial⟩)
  ·exact ⟨by omega, by omega, by rw [hinv.2.2, bs_hi hlt hx k31]⟩
  omega
 intro h17
 have k17 := of_decide_eq_false h17; try simp only [A5] at k17
 have hge : bs (fun x => f x v) l 0 l.length = i := by rw [hinv.2.2, Bg3 qz8]
 obtain ⟨y, hy⟩ := AL6 l i
 refine R11 ?_
 refine L3 rfl (fun hc => C7 rfl C0 E9 (B1 rfl hc) (B1 rfl hc) (hy qz6) rfl) ?_
 refine R2 ?_
 refine L3 rfl (fun hc => Be9 rfl (B1 rfl hc) y v (hp y (C6 (hy qz6))) (B1 rfl hc) (B1 rfl hc)) ?_
 refine R6 ?_
 exact W6 rfl D0 (B6 (A6 rfl qz84) (B6 (A6 rfl qz84) E8))
theorem BZ7 (l : List Int) (v : Int) : B9 Tryz.prog 46 [ints l, AV.int v] (AV.int (idxFrom (fun x => v == x) l 0)) := by
 refine B7 Tryz.func46 rfl Tryz.ntmps46 rfl ?_
 refine S0 (t := 0) rfl fun hl => ?_
 try simp only [A5] at hl
 refine R12 ?_
 refine E5 [(0, _), (1, _), (7, _)] _ (fun (i : Nat) => i ≤ l.length ∧ idxFrom (fun x => v == x) l 0 = idxFrom (fun x => v == x) (l.drop i) i) (fun (i : Nat) => []) (fun (i : Nat) => [(8, AV.int i)]) (fun (i : Nat) => l.length - i) (0) ?_ (F2 ⟨rfl, rfl, rfl, rfl, trivial⟩) ?_
 ·exact ⟨Nat.zero_le _, rfl⟩
 intro i hinv
 refine R5 ?_
 refine A8 (A0 rfl) ?_ ?_
 ·intro h9
  have k9 := of_decide_eq_true h9; try simp only [A5] at k9
  have hlt : i < l.length := by omega
  obtain ⟨x, hx⟩ := get_some hlt
  refine R13 ?_
  refine A4 rfl (C7 rfl B3 B4 (A0 rfl) (A0 rfl) hx qz4) ?_
  refine R3 ?_
  refine A8 (A0 rfl) ?_ ?_
  ·intro h16
   have k16 := D2 h16; try simp only [A5] at k16
   refine R6 ?_
   exact D5 rfl (A6 rfl AU7)
  intro h16
  have k16 := D6 h16; try simp only [A5] at k16
  refine R5 ?_
  refine F3 i (i + 1) ?_ ?_ (F2 ⟨rfl, rfl, rfl, rfl, trivial⟩)
  ·exact ⟨by omega, by rw [hinv.2, drop_some hx, idxFrom, h16]; simp⟩
  omega
 intro h9
 have k9 := of_decide_eq_false h9; try simp only [A5] at k9
 have hge : l.length ≤ i := by omega
 refine R6 ?_
 exact D5 rfl (A6 rfl AU7)
theorem AZ8 (l : List Int) (v : Int) : B9 Tryz.prog 37 [ints l, AV.int v] (AV.bool (l.any fun x => v == x)) := by
  refine B7 Tryz.func37 rfl Tryz.ntmps37 rfl ?_
  refine R8 ?_
  refine A4 rfl (B2 rfl Tryz.call46 rfl (BZ7 _ _) (A1 (A0 rfl) (A1 (A0 rfl) A7))) ?_
  refine R4 ?_
  exact D5 rfl (A6 rfl (by exact congrArg AV.bool (AS3 (fun x => v == x) l 0 (Int.le_refl 0))))
theorem BE6 (l : List Str) (v : Str) : B9 Tryz.prog 117 [strs l, AV.str v] (AV.int (idxFrom (fun x => v == x) l 0)) := by
 refine B7 Tryz.func117 rfl Tryz.ntmps117 rfl ?_
 refine S0 (t := 0) rfl fun hl => ?_
 try simp only [A5] at hl
 refine R12 ?_
 refine E5 [(0, _), (1, _), (7, _)] _ (fun (i : Nat) => i ≤ l.length ∧ idxFrom (fun x => v == x) l 0 = idxFrom (fun x => v == x) (l.drop i) i) (fun (i : Nat) => []) (fun (i : Nat) => [(8, AV.int i)]) (fun (i : Nat) => l.length - i) (0) ?_ (F2 ⟨rfl, rfl, rfl, rfl, trivial⟩) ?_
 ·exact ⟨Nat.zero_le _, rfl⟩
 intro i hinv
 refine R5 ?_
 refine A8 (A0 rfl) ?_ ?_
 ·intro h9
  have k9 := of_decide_eq_true h9; try simp only [A5] at k9
  have hlt : i < l.length := by omega
  obtain ⟨x, hx⟩ := get_some hlt
  refine R13 ?_
  refine A4 rfl (C7 rfl F7 K1 (A0 rfl) (A0 rfl) hx qz4) ?_
  refine R3 ?_
  refine A8 (A0 rfl) ?_ ?_
  ·intro h16
   refine R6 ?_
   exact D5 rfl (A6 rfl AU7)
  intro h16
  refine R5 ?_
  refine F3 i (i + 1) ?_ ?_ (F2 ⟨rfl, rfl, rfl, rfl, trivial⟩)
  ·exact ⟨by omega, by rw [hinv.2, drop_some hx, idxFrom, h16]; simp⟩
  omega
 intro h9
 have k9 := of_decide_eq_false h9; try simp only [A5] at k9
 have hge : l.length ≤ i := by omega
 refine R6 ?_
 exact D5 rfl (A6 rfl AU7)
theorem Ap5 (l : List Str) (v : Str) : B9 Tryz.prog 85 [strs l, AV.str v] (AV.bool (l.any fun x => v == x)) := by
  refine B7 Tryz.func85 rfl Tryz.ntmps85 rfl ?_
  refine R8 ?_
  refine A4 rfl (B2 rfl Tryz.call117 rfl (BE6 _ _) (A1 (A0 rfl) (A1 (A0 rfl) A7))) ?_
  refine R4 ?_
  exact D5 rfl (A6 rfl (by exact congrArg AV.bool (AS3 (fun x => v == x) l 0 (Int.le_refl 0))))
theorem BI6 (l : List A9) (hl : l.length ≤ 4194304) : C8 Tryz.prog 89 [AV.list 3 (l.map A9.cs)] [] (fun _ : Value => True) (fun v => [.arr v 47 3 (l.map A9.cs)]) (fun v => AV.is v) := by
 refine C3 Tryz.func89 rfl Tryz.ntmps89 rfl ?_
 refine Az2 0 rfl ?_ ?_
 ·intro hnil
  have hn : l = [] := by cases l with | nil => rfl | cons x l => simp at hnil
  subst hn
  refine R2 ?_
  refine O8 47 3 rfl rfl rfl rfl F4 ?_
  intro v2
  refine R5 ?_
  refine A4 rfl (Bt8 rfl C0 (A0 rfl)) ?_
  refine R1 ?_
  refine A8 (A0 rfl) ?_ ?_
  ·intro h4
   refine R2 ?_
   refine O8 47 3 rfl rfl rfl rfl F4 ?_
   intro v2
   refine R2 ?_
   exact G1 [0] v2 (trivial) rfl B0 (E6 rfl (A6 rfl U6))
  intro h4
  cases h4
 skip
 refine R2 ?_
 refine O8 47 3 rfl rfl rfl rfl F4 ?_
 intro v2
 refine R5 ?_
 refine A4 rfl (Bt9 rfl C0 (A0 rfl)) ?_
 refine R1 ?_
 refine A8 (A0 rfl) ?_ ?_
 ·intro h4
  cases h4
 intro h4
 refine R3 ?_
 refine N8 rfl rfl rfl rfl C0 E9 ?_
 intro v5
 refine R1 ?_
 refine G0 (by' := 40) 0 rfl rfl rfl rfl C0 Tryz.type47 rfl rfl rfl rfl rfl rfl (A0 rfl) (i9 (A0 rfl) Bf4) rfl qz4 ?_
 intro v7_1
 refine R3 ?_
 exact G1 [0] v7_1 (trivial) rfl B0 (E6 rfl (A6 rfl U6))
theorem Ao5 (l : List Int) (hl : l.length ≤ 4194304) : C8 Tryz.prog 28 [ints l] [] (fun _ : Value => True) (fun v => [.arr v 3 1 (l.map (fun x => [AV.int x]))]) (fun v => AV.is v) := by
 refine C3 Tryz.func28 rfl Tryz.ntmps28 rfl ?_
 refine Az2 0 rfl ?_ ?_
 ·intro hnil
  have hn : l = [] := by cases l with | nil => rfl | cons x l => simp at hnil
  subst hn
  refine R2 ?_
  refine O8 3 1 rfl rfl rfl rfl F4 ?_
  intro v2
  refine R5 ?_
  refine A4 rfl (Bt8 rfl B3 (A0 rfl)) ?_
  refine R1 ?_
  refine A8 (A0 rfl) ?_ ?_
  ·intro h4
   refine R2 ?_
   refine O8 3 1 rfl rfl rfl rfl F4 ?_
   intro v2
   refine R2 ?_
   exact G1 [0] v2 (trivial) rfl B0 (E6 rfl (A6 rfl U6))
  intro h4
  cases h4
 skip
 refine R2 ?_
 refine O8 3 1 rfl rfl rfl rfl F4 ?_
 intro v2
 refine R5 ?_
 refine A4 rfl (Bt9 rfl B3 (A0 rfl)) ?_
 refine R1 ?_
 refine A8 (A0 rfl) ?_ ?_
 ·intro h4
  cases h4
 intro h4
 refine R3 ?_
 refine N8 rfl rfl rfl rfl B3 B4 ?_
 intro v5
 refine R1 ?_
 refine G0 (by' := 8) 0 rfl rfl rfl rfl B3 Tryz.type3 rfl rfl rfl rfl rfl rfl (A0 rfl) (i9 (A0 rfl) Bf4) rfl qz4 ?_
 intro v7_1
 refine R3 ?_
 exact G1 [0] v7_1 (trivial) rfl B0 (E6 rfl (A6 rfl U6))
theorem Ap6 (v : Value) (l : List A9) (pre : A9 → Prop) (f : A9 → Bool) (hp : ∀ x ∈ l, pre x) (hl : l.length ≤ 4194304) : C8 Tryz.prog 91 [AV.is v, AV.fun1 Tryz.prog pre (fun a => AV.agg a.cs) (fun a => AV.bool (f a))] [.arr v 47 3 (l.map A9.cs)] (fun _ : Value => True) (fun v => [.arr v 47 3 ((l.filter fun x => !f x).map A9.cs)]) (fun v => AV.is v) := by
 refine C3 Tryz.func91 rfl Tryz.ntmps91 rfl ?_
 refine R2 ?_
 refine A4 rfl (D4 rfl F4) ?_
 refine R5 ?_
 refine A4 rfl (AG1 rfl Tryz.call116 rfl (AP4 _ _ _ Aq0) (L5 _ _) (T2 (AX2 0 (A0 rfl) rfl) (T2 (evb (A0 rfl)) i0))) ?_
 refine R8 ?_
 refine A8 (A0 rfl) ?_ ?_
 ·intro h12
  have k12 := D2 h12; try simp only [A5] at k12
  have hall : l.filter (fun x => !f x) = l := by rcases AZ0 f l 0 with h | ⟨n, x, h1, _⟩; exact h.2; (exfalso; have := k12; rw [show ((0 : Nat) : Int) = 0 from rfl] at h1; omega)
  refine R6 ?_
  exact G1 [0] v (trivial) rfl qz129 (E6 rfl (A6 rfl U6))
 intro h12
 have k12 := D6 h12; try simp only [A5] at k12
 obtain ⟨n, x0, hn, hx0, htk⟩ : ∃ (n : Nat) (x : A9), idxFrom f l 0 = (n : Int) ∧ l[n]? = some x ∧ l.take n = (l.take (n + 1)).filter (fun x => !f x) := by rcases AZ0 f l 0 with h | ⟨n, x, h1, h2, h3⟩; exact absurd h.1 k12; exact ⟨n, x, by rw [show ((0 : Nat) : Int) = 0 from rfl] at h1; omega, h2, h3⟩
 rw [hn]
 have hnl : n < l.length := (List.getElem?_eq_some_iff.1 hx0).1
 refine R9 ?_
 refine T8 [(0, _), (1, _), (4, _)] _ (fun (i : Nat) (j : Nat) (m : List A9) => i < j ∧ j ≤ l.length ∧ m.length = l.length ∧ m.take i = (l.take j).filter (fun x => !f x) ∧ m.drop j = l.drop j) (fun (i : Nat) (j : Nat) (m : List A9) => [.arr v 47 3 (m.map A9.cs)]) (fun (i : Nat) (j : Nat) (m : List A9) => [(5, AV.int i), (6, AV.int j)]) (fun (i : Nat) (j : Nat) (m : List A9) => l.length - j) (n) (n + 1) (l) ?_ (I8 B0 ⟨rfl, rfl, rfl, rfl, rfl, trivial⟩) ?_
 ·exact ⟨by omega, by omega, rfl, htk, rfl⟩
 intro i j m hinv
 refine R8 ?_
 refine A8 (A0 rfl) ?_ ?_
 ·intro h19
  have k19 := of_decide_eq_true h19; try simp only [A5] at k19
  have hm := hinv.2.2.1
  have hlt : j < l.length := by omega
  obtain ⟨x, hx⟩ := get_some hlt
  have hmx := Bo3 hinv.2.2.2.2 hx
  refine R7 ?_
  refine A4 rfl (D7 0 rfl C0 E9 (A0 rfl) rfl (A0 rfl) qz8 g9) ?_
  refine A4 rfl (X5 0 rfl (A0 rfl) rfl Tryz.isAgg47 E9 (by simp only [Int.toNat_natCast, List.getElem?_map, hmx, Option.map_some]; rfl) D0) ?_
  refine R1 ?_
  intro b7
  refine R6 ?_
  refine A4 rfl (AJ9 rfl (A0 rfl) x (hp x (C6 hx)) (A0 rfl)) ?_
  refine R2 ?_
  refine A8 (A0 rfl) ?_ ?_
  ·intro h29
   refine R5 ?_
   refine A4 rfl (D7 1 rfl C0 E9 (A0 rfl) rfl (A0 rfl) qz8 g9) ?_
   refine N3 1 rfl rfl rfl (A0 rfl) (A0 rfl) (U4 _) rfl E9 rfl Bd3 ?_
   refine R11 ?_
   refine N7 i j m (i + 1) (j + 1) (m.set i x) ?_ ?_ (E3 1 qz197 ⟨rfl, rfl, rfl, rfl, rfl, trivial⟩)
   ·(have hd := del_keep (p := fun x => !f x) hinv.2.2.1 qz8 hx hinv.2.2.2.1 hinv.2.2.2.2 h29; exact ⟨by omega, by omega, hd.2.2, hd.1, hd.2.1⟩)
   omega
  intro h29
  refine R6 ?_
  refine N7 i j m (i) (j + 1) (m) ?_ ?_ (E3 1 qz197 ⟨rfl, rfl, rfl, rfl, rfl, trivial⟩)
  ·(have hd := del_skip (p := fun x => !f x) hx hinv.2.2.2.1 hinv.2.2.2.2 h29; exact ⟨by omega, by omega, hinv.2.2.1, hd.1, hd.2⟩)
  omega
 intro h19
 have k19 := of_decide_eq_false h19; try simp only [A5] at k19
 have hm := hinv.2.2.1
 have hge : l.length ≤ j := by omega
 refine R5 ?_
 refine A4 rfl (Bd9 0 rfl C0 E9 (A0 rfl) rfl (A0 rfl) qz8 g9) ?_
 refine CE7 0 rfl rfl rfl C0 Tryz.zeroValue47 rfl rfl D0 (A0 rfl) rfl Bd3 ?_
 refine R5 ?_
 refine Bf5 0 rfl rfl rfl rfl C0 E9 (A0 rfl) rfl (A0 rfl) qz8 (by simp only [A5, G2, H2, List.length_replicate]; omega) ?_
 intro v41_1
 refine R3 ?_
 exact G1 [0] v41_1 (trivial) rfl qz129 (E6 rfl (A6 rfl U6))
theorem BI7 (v vv : Value) (l : List A9) (x : A9) (i : Nat) (hi : i ≤ l.length) (hl : l.length ≤ 4194304) : C8 Tryz.prog 119 [AV.is v, AV.int i, AV.is vv] [.arr v 47 3 (l.map A9.cs), .arr vv 47 3 [A9.cs x]] (fun _ : Value => True) (fun v => [.arr v 47 3 ((l.take i ++ x :: l.drop i).map A9.cs)]) (fun v => AV.is v) := by
 have hn : (l.map A9.cs).length = l.length := A5 _
 have h1 : ([A9.cs x] : List (List AV)).length = 1 := rfl
 have e28 : ((l.map A9.cs).length : Int) + (([A9.cs x] : List (List AV)).length : Int) = ((l.length + 1 : Nat) : Int) := by rw [hn, h1]; rfl
 have e49 : (i : Int) + (([A9.cs x] : List (List AV)).length : Int) = ((i + 1 : Nat) : Int) := by rw [h1]; rfl
 have e39 : ((l.length + 1 : Nat) : Int) - (i : Int) = ((l.length + 1 - i : Nat) : Int) := by omega
 refine C3 Tryz.func119 rfl Tryz.ntmps119 rfl ?_
 refine BD1 0 rfl ?_ ?_
 ·intro hv hes; subst hv
  have hl0 : l = [] := by cases l with | nil => rfl | cons y l => (simp at hes)
  subst hl0
  have hi0 : i = 0 := by simpa using hi
  subst hi0
  refine BD1 1 rfl (fun _ h => by cases h) ?_
  intro gv cv hvv _ _
  subst hvv
  refine R2 ?_
  refine A4 rfl (D4 rfl F4) ?_
  refine R5 ?_
  refine A4 rfl (Bd9 0 rfl C0 E9 (A0 rfl) rfl (A0 rfl) qz4 qz4) ?_
  refine R4 ?_
  refine A4 rfl (Bf7 rfl C0 (A0 rfl)) ?_
  refine R8 ?_
  refine A8 (A0 rfl) ?_ ?_
  ·intro h16
   have k16 := D2 h16; try simp only [A5] at k16
   rw [h1] at k16; omega
  intro h16
  have k16 := D6 h16; try simp only [A5] at k16
  refine R14 ?_
  refine A8 (A0 rfl) ?_ ?_
  ·intro h22
   have k22 := D2 h22; try simp only [A5] at k22
   refine R4 ?_
   refine BG9 (by' := 40) 0 rfl rfl rfl rfl C0 Tryz.type47 rfl rfl rfl rfl rfl rfl (A0 rfl) (Ak7 1 rfl (A0 rfl)) U2 rfl (by simp only [A5, H6, N1]; omega) ?_
   intro v25
   refine R3 ?_
   exact G1 [0] v25 (trivial) rfl qz55 (E6 rfl (A6 rfl (by first | rfl | (rw [hn]))))
  intro h22
  have k22 := D6 h22; try simp only [A5] at k22
  exact absurd rfl k22
 intro g cap hv hlc hcm; subst hv
 refine BD1 1 rfl (fun _ h => by cases h) ?_
 intro gv cv hvv _ _
 subst hvv
 refine R2 ?_
 refine A4 rfl (D4 rfl F4) ?_
 refine R5 ?_
 refine A4 rfl (Ab9 rfl C0 E9 (A0 rfl) (A0 rfl) qz4 qz4) ?_
 refine R4 ?_
 refine A4 rfl (Bf7 rfl C0 (A0 rfl)) ?_
 refine R8 ?_
 refine A8 (A0 rfl) ?_ ?_
 ·intro h16
  have k16 := D2 h16; try simp only [A5] at k16
  rw [h1] at k16; omega
 intro h16
 have k16 := D6 h16; try simp only [A5] at k16
 refine R4 ?_
 refine A4 rfl (Bf7 rfl C0 (A0 rfl)) ?_
 refine R9 ?_
 refine A8 (A0 rfl) ?_ ?_
 ·intro h22
  have k22 := D2 h22; try simp only [A5] at k22
  refine R4 ?_
  refine BG9 (by' := 40) 0 rfl rfl rfl rfl C0 Tryz.type47 rfl rfl rfl rfl rfl rfl (A0 rfl) (Ak7 1 rfl (A0 rfl)) U2 rfl (by simp only [A5, H6, N1]; omega) ?_
  intro v25
  refine R3 ?_
  exact G1 [0] v25 (trivial) rfl qz55 (E6 rfl (A6 rfl (by first | rfl | (rw [hn]))))
 intro h22
 have k22 := D6 h22; try simp only [A5] at k22
 refine R7 ?_
 rw [e28]
 refine R1 ?_
 refine A4 rfl (w_vcap rfl C0 (A0 rfl)) ?_
 refine R2 ?_
 refine A8 (A0 rfl) ?_ ?_
 ·intro h31
  have k31 := of_decide_eq_true h31; try simp only [A5] at k31
  refine R4 ?_
  refine A4 rfl (w_vhi rfl C0 E9 (A0 rfl) (A0 rfl) qz8 (by rw [hn] at hlc; omega)) ?_
  refine R3 ?_
  rw [e28]
  refine R2 ?_
  rw [e39, Int.toNat_natCast]
  refine Bx6 (by' := 40) (j := i) (m := l.length + 1 - i) 0 rfl rfl rfl rfl C0 d4 Tryz.type47 rfl rfl rfl rfl rfl rfl (A0 rfl) (A0 rfl) rfl (by rw [hn]; exact hi) qz8 qz8 qz8 qz8 ?_
  intro g2 cap2 hcap2
  refine R6 ?_
  refine A4 rfl (Ab9 rfl C0 E9 (A0 rfl) (A0 rfl) qz4 qz4) ?_
  refine R1 ?_
  rw [Int.toNat_natCast]
  refine BO8 (k := i) 0 rfl rfl rfl rfl C0 Tryz.type47 rfl (A0 rfl) (Ak7 2 rfl (A0 rfl)) rfl (by rw [h1]; omega) (by rw [h1]; omega) hcap2 U2 ?_
  refine R2 ?_
  refine L6 8 F1 F1 rfl ?_
  refine R4 ?_
  rw [e49]
  refine C2 rfl rfl (Ab9 rfl C0 E9 (A0 rfl) (A0 rfl) qz4 qz4) ?_
  refine R2 ?_
  refine C2 rfl rfl (Ab9 rfl C0 E9 (A0 rfl) (A0 rfl) qz4 qz4) ?_
  refine R1 ?_
  simp only [Int.toNat_natCast]
  refine BO8 (k := i + 1) 0 rfl rfl rfl rfl C0 Tryz.type47 rfl (A0 rfl) (Bu2 1 rfl (A0 rfl)) rfl (by rw [List.length_drop, hn]; omega) (by rw [List.length_drop, hn]; omega) hcap2 (by intro h; have := congrArg List.length h; rw [List.length_drop, hn] at this; simp at this; omega) ?_
  refine R7 ?_
  exact G1 [0] (slv g2 (i + (l.length + 1 - i)) cap2) (trivial) rfl qz55 (E6 rfl (A6 rfl (by first | rfl | (rw [hn]))))
 intro h31
 have k31 := of_decide_eq_false h31; try simp only [A5] at k31
 refine R7 ?_
 rw [e28]
 refine A4 rfl (w_vhi rfl C0 E9 (A0 rfl) (A0 rfl) qz4 qz4) ?_
 rw [Int.toNat_natCast]
 refine R10 ?_
 rw [e49]
 refine A4 rfl (Ab9 rfl C0 E9 (A0 rfl) (A0 rfl) qz4 qz4) ?_
 rw [Int.toNat_natCast]
 refine A4 rfl (Bo2 (tb := 4) 1 0 rfl Tryz.func136 F1 F1 F1 F1 C0 E9 (A0 rfl) (A0 rfl) rfl rfl rfl qz8 rfl) ?_
 refine R2 ?_
 refine A8 (A0 rfl) ?_ ?_
 ·intro h68
  refine R1 ?_
  refine L6 8 F1 F1 rfl ?_
  refine R4 ?_
  rw [e49]
  refine C2 rfl rfl (Ab9 rfl C0 E9 (A0 rfl) (A0 rfl) qz4 qz4) ?_
  refine R2 ?_
  refine C2 rfl rfl (Ab9 rfl C0 E9 (A0 rfl) (A0 rfl) qz4 qz4) ?_
  refine R1 ?_
  simp only [Int.toNat_natCast]
  refine sq_shift (k := i) (len := (l.map A9.cs).length) 0 rfl rfl rfl rfl C0 Tryz.type47 rfl (by rw [hn]; exact A0 rfl) (by rw [hn]; exact A0 rfl) rfl qz8 qz8 ?_
  intro j77
  refine R5 ?_
  refine A4 rfl (Ab9 rfl C0 E9 (A0 rfl) (A0 rfl) qz4 qz4) ?_
  refine R1 ?_
  rw [Int.toNat_natCast]
  refine BO8 (k := i) 0 rfl rfl rfl rfl C0 Tryz.type47 rfl (A0 rfl) (Ak7 1 rfl (A0 rfl)) rfl (by rw [h1, hn]; omega) (by rw [h1]; omega) qz8 U2 ?_
  refine R7 ?_
  exact G1 [0] (slv g ((l.map A9.cs).length + 1) cap) (trivial) rfl qz55 (E6 rfl (A6 rfl (by first | rfl | (rw [hn]))))
 intro h68
 cases h68
theorem Ao6 (s : Str) (g : Bool) (hs : s.length ≤ 4611686018427387904) : B9 Tryz.prog 94 [AV.str s, AV.bool g] (AV.bool (isStored s g)) := by
  refine B7 Tryz.func94 rfl Tryz.ntmps94 rfl ?_
  refine R7 ?_
  refine A4 rfl (B2 rfl Tryz.call121 rfl (Bi0 _ qz8) (A1 (A0 rfl) A7)) ?_
  refine R4 ?_
  refine f5 rfl rfl (V1 rfl rfl rfl) (fun hc => Be8 rfl (B1 rfl hc) (L4 (l := []) rfl)) ?_
  refine R6 ?_
  exact D5 rfl (A6 rfl U6)
theorem AW3 (s : Str) (hs : s.length ≤ 4611686018427387904) : B9 Tryz.prog 100 [AV.str s] (AV.bool (l3Val s)) := by
  refine B7 Tryz.func100 rfl Tryz.ntmps100 rfl ?_
  refine R11 ?_
  refine L3 rfl (fun hc => B2 rfl Tryz.call122 rfl (As8 _ _ qz8 D0) (A1 (B1 rfl hc) (A1 (L4 (l := [46, 45, 44, 95]) rfl) A7))) ?_
  refine R4 ?_
  exact D5 rfl (A6 rfl U6)
theorem At1 (k s : Str) (g : Bool) (hk : k.length ≤ 4611686018427387904) (hs : s.length ≤ 4611686018427387904) : B9 Tryz.prog 101 [AV.str k, AV.str s, AV.bool g] (AV.bool (l3Write k s g)) := by
  refine B7 Tryz.func101 rfl Tryz.ntmps101 rfl ?_
  refine R7 ?_
  refine A4 rfl (B2 rfl Tryz.call99 rfl (AA9 _ qz8) (A1 (A0 rfl) A7)) ?_
  refine R2 ?_
  refine L3 rfl (fun hc => B2 rfl Tryz.call100 rfl (AW3 _ qz8) (A1 (B1 rfl hc) A7)) ?_
  refine R6 ?_
  refine f5 rfl rfl (Aj3 rfl rfl rfl) (fun hc => AH9 rfl (B1 rfl hc) (L4 (l := []) rfl)) ?_
  refine R5 ?_
  exact D5 rfl (A6 rfl U6)
theorem Ao7 (t : Str) : B9 Tryz.prog 111 [AV.str t] (AV.bool false) := by
  refine B7 Tryz.func111 rfl Tryz.ntmps111 rfl ?_
  refine R12 ?_
  exact D5 rfl (A6 rfl (by exact congrArg AV.bool U2))
theorem Bp1 (x y : Str) : B9 Tryz.prog 80 [AV.str x, AV.str y] (AV.int (cmpStr x y)) := by
 refine B7 Tryz.func80 rfl Tryz.ntmps80 rfl ?_
 refine R7 ?_
 refine A4 rfl (B2 rfl Tryz.call111 rfl (Ao7 _) (A1 (A0 rfl) A7)) ?_
 refine R5 ?_
 refine A4 rfl (B2 rfl Tryz.call111 rfl (Ao7 _) (A1 (A0 rfl) A7)) ?_
 refine R7 ?_
 refine A8 (A0 rfl) ?_ ?_
 ·intro h11
  cases h11
 intro h11
 refine R6 ?_
 refine A8 (A0 rfl) ?_ ?_
 ·intro h13
  cases h13
 intro h13
 refine R6 ?_
 refine A4 rfl (w_slss rfl (A0 rfl) (A0 rfl)) ?_
 refine R1 ?_
 refine A8 (A0 rfl) ?_ ?_
 ·intro h16
  refine R5 ?_
  exact D5 rfl (A6 rfl qz138)
 intro h16
 refine R6 ?_
 refine A4 rfl (BG1 rfl (A0 rfl) (A0 rfl)) ?_
 refine R1 ?_
 refine A8 (A0 rfl) ?_ ?_
 ·intro h19
  refine R5 ?_
  exact D5 rfl (A6 rfl qz138)
 intro h19
 refine R6 ?_
 exact D5 rfl (A6 rfl qz138)
theorem Bz8 {l : List A9} (h : sizeL A9.size l ≤ 4194304) : ∀ k ∈ M2 l, k.length ≤ 4611686018427387904 := fun k hk => by
  obtain ⟨w, hw, rfl⟩ := List.mem_map.1 hk
  have := Ac3 (f := A9.size) hw
  have h2 : w.size = w.Key.length + w.Val.length := rfl
  omega
theorem BP7 (l : List Str) (hs : ∀ k ∈ l, k.length ≤ 4611686018427387904) : B9 Tryz.prog 96 [strs l] (AV.bool (areRising l)) := by
 refine B7 Tryz.func96 rfl Tryz.ntmps96 rfl ?_
 refine S0 (t := 0) rfl fun hl => ?_
 try simp only [A5] at hl
 refine R12 ?_
 refine E5 [(0, _), (5, _), (6, _)] _ (fun (i : Nat) => i ≤ l.length ∧ areRising l = ((l.drop i).all goodKey && adj Op.bytesLess (l.drop (i - 1)))) (fun (i : Nat) => []) (fun (i : Nat) => [(7, AV.int i)]) (fun (i : Nat) => l.length - i) (0) ?_ (F2 ⟨rfl, rfl, rfl, rfl, trivial⟩) ?_
 ·exact ⟨Nat.zero_le _, rfl⟩
 intro i hinv
 refine R5 ?_
 refine A8 (A0 rfl) ?_ ?_
 ·intro h8
  have k8 := of_decide_eq_true h8; try simp only [A5] at k8
  have hlt : i < l.length := by omega
  obtain ⟨x, hx⟩ := get_some hlt
  obtain ⟨y, hy⟩ := get_some (show i - 1 < l.length by omega)
  have hsx := hs x (C6 hx)
  refine R6 ?_
  refine A4 rfl (C7 rfl F7 K1 (A0 rfl) (A0 rfl) hx qz4) ?_
  refine R7 ?_
  refine A4 rfl (B2 rfl Tryz.call93 rfl (As9 _ qz8) (A1 (A0 rfl) A7)) ?_
  refine R9 ?_
  refine f5 rfl rfl (V1 rfl rfl rfl) (fun hc => C7 rfl F7 K1 (B1 rfl hc) (B1 rfl hc) hy qz6) ?_
  refine R1 ?_
  refine f5 rfl rfl (V1 rfl rfl rfl) (fun hc => w_sleq rfl (B1 rfl hc) (B1 rfl hc)) ?_
  refine R3 ?_
  refine A8 (A0 rfl) ?_ ?_
  ·intro h27
   have hfin : areRising l = false := by rw [hinv.2]; cases hg : goodKey x with | false => (rw [AZ2 hx hg]; simp) | true => (have hb : 0 < i ∧ Op.bytesLess y x = false := (by have := T5 y x; simp_all; try grind); rw [AK4 hx hy hb.1 hb.2]; simp)
   refine R5 ?_
   exact D5 rfl (A6 rfl qz166)
  intro h27
  have hg : goodKey x = true ∧ (0 < i → Op.bytesLess y x = true) := by have := T5 y x; simp_all
  refine R5 ?_
  refine F3 i (i + 1) ?_ ?_ (F2 ⟨rfl, rfl, rfl, rfl, trivial⟩)
  ·exact ⟨by omega, by rw [hinv.2, AZ1 hx hg.1, AK3 hx hy hg.2]⟩
  omega
 intro h8
 have k8 := of_decide_eq_false h8; try simp only [A5] at k8
 have hge : l.length ≤ i := by omega
 refine R6 ?_
 exact D5 rfl (A6 rfl qz166)
theorem BP8 (l : List A9) (hs : sizeL A9.size l ≤ 4194304) : B9 Tryz.prog 97 [AV.list 3 (l.map A9.cs)] (strs (M2 l)) := by
 have hl : l.length ≤ 4194304 := Nat.le_trans L7 hs
 refine B7 Tryz.func97 rfl Tryz.ntmps97 rfl ?_
 refine R2 ?_
 refine A4 rfl (D4 rfl (P8 (sz := 1))) ?_
 refine R3 ?_
 refine N8 rfl rfl rfl rfl F7 K1 ?_
 intro v6
 refine R10 ?_
 refine J7 [(2, _), (7, _), (8, _)] _ (fun (i : Nat) (v : Value) => i ≤ l.length) (fun (i : Nat) (v : Value) => [.arr v 9 1 ((l.take i).map fun w => [AV.str w.Key])]) (fun (i : Nat) (v : Value) => [(3, AV.is v), (9, AV.int i)]) (fun (i : Nat) (v : Value) => l.length - i) (0) (v6) ?_ (I8 B0 ⟨rfl, rfl, rfl, rfl, rfl, trivial⟩) ?_
 ·exact Nat.zero_le _
 intro i v hinv
 refine R5 ?_
 refine A8 (A0 rfl) ?_ ?_
 ·intro h10
  have k10 := of_decide_eq_true h10; try simp only [A5] at k10
  have hlt : i < l.length := by omega
  obtain ⟨x, hx⟩ := get_some hlt
  refine R5 ?_
  refine A4 rfl (C7 rfl C0 E9 (A0 rfl) (A0 rfl) hx qz4) ?_
  refine R2 ?_
  intro b5
  refine R7 ?_
  refine G0 (by' := 16) 1 rfl rfl rfl rfl F7 Tryz.type9 rfl rfl rfl rfl rfl rfl (A0 rfl) (A0 rfl) rfl qz4 ?_
  intro v17_1
  refine R6 ?_
  refine G9 i v (i + 1) (v17_1) ?_ ?_ (E3 1 (by exact congrArg (fun z => [Own.arr v17_1 9 1 z]) (AJ3 (f := fun w : A9 => [AV.str w.Key]) hx)) ⟨rfl, rfl, rfl, rfl, rfl, trivial⟩)
  ·omega
  omega
 intro h10
 have k10 := of_decide_eq_false h10; try simp only [A5] at k10
 have hge : l.length ≤ i := by omega
 rw [List.take_of_length_le hge]
 refine R7 ?_
 refine AP6 0 2 rfl rfl ?_
 exact D5 rfl (A6 rfl (by exact congrArg (AV.list 1) (by unfold M2; rw [List.map_map]; rfl)))
theorem BE7 (w : A9) (h : w.size ≤ 4194304) : B9 Tryz.prog 98 [AV.agg w.cs] (AV.bool (!isStored w.Val w.Gone)) := by
  unfold A9.size at h
  refine B7 Tryz.func98 rfl Tryz.ntmps98 rfl ?_
  refine R3 ?_
  intro b1
  refine R8 ?_
  refine A4 rfl (B2 rfl Tryz.call94 rfl (Ao6 _ _ qz8) (A1 (A0 rfl) (A1 (A0 rfl) A7))) ?_
  refine R4 ?_
  exact D5 rfl (A6 rfl U6)
theorem BI8 (l : List A9) (hs : sizeL A9.size l ≤ 4194304) : B9 Tryz.prog 66 [AV.list 3 (l.map A9.cs)] (AV.bool (goodWrites l)) := by
  have hm : ∀ x ∈ l, x.size ≤ 4194304 := fun x hx => Nat.le_trans (Ac3 hx) hs
  refine B7 Tryz.func66 rfl Tryz.ntmps66 rfl ?_
  refine R11 ?_
  refine L3 rfl (fun hc => B2 rfl Tryz.call97 rfl (BP8 _ k0) (A1 (B1 rfl hc) A7)) ?_
  refine L3 rfl (fun hc => B2 rfl Tryz.call96 rfl (BP7 _ (by first | assumption | exact Bz8 k0)) (A1 (B1 rfl hc) A7)) ?_
  refine R3 ?_
  refine L3 rfl (fun hc => B2 rfl Tryz.call83 rfl (AI7 _ _ _ Aq0) (A1 (B1 rfl hc) (A1 (BO6 Tryz.call98 (fun w h => BE7 w h)) A7))) ?_
  refine R5 ?_
  exact D5 rfl (A6 rfl (by exact congrArg AV.bool (by unfold goodWrites; simp only [A5])))
theorem AU9 (l : List A9) (hs : sizeL A9.size l ≤ 1048576) : B9 Tryz.prog 69 [AV.list 3 (l.map A9.cs)] (AV.bool (l3Writes l)) := by
 refine B7 Tryz.func69 rfl Tryz.ntmps69 rfl ?_
 refine S0 (t := 0) rfl fun hl => ?_
 try simp only [A5] at hl
 refine R12 ?_
 refine E5 [(0, _), (5, _), (6, _)] _ (fun (i : Nat) => i ≤ l.length ∧ (l.all t3 && adj wLess l) = ((l.drop i).all t3 && adj wLess (l.drop (i - 1)))) (fun (i : Nat) => []) (fun (i : Nat) => [(7, AV.int i)]) (fun (i : Nat) => l.length - i) (0) ?_ (F2 ⟨rfl, rfl, rfl, rfl, trivial⟩) ?_
 ·exact ⟨Nat.zero_le _, rfl⟩
 intro i hinv
 refine R5 ?_
 refine A8 (A0 rfl) ?_ ?_
 ·intro h8
  have k8 := of_decide_eq_true h8; try simp only [A5] at k8
  have hlt : i < l.length := by omega
  obtain ⟨x, hx⟩ := get_some hlt
  obtain ⟨y, hy⟩ := get_some (show i - 1 < l.length by omega)
  have hsx : x.size ≤ 1048576 := Nat.le_trans (X1 hx) hs
  unfold A9.size at hsx
  refine R6 ?_
  refine A4 rfl (C7 rfl C0 E9 (A0 rfl) (A0 rfl) hx qz4) ?_
  refine R2 ?_
  intro b4
  refine R11 ?_
  refine C2 rfl rfl (B2 rfl Tryz.call101 rfl (At1 _ _ _ qz8 qz8) (A1 (A0 rfl) (A1 (A0 rfl) (A1 (A0 rfl) A7)))) ?_
  refine R8 ?_
  refine M6 rfl (V1 rfl rfl rfl) (fun hc => C7 rfl C0 E9 (B1 rfl hc) (B1 rfl hc) hy qz6) ?_
  refine R4 ?_
  refine M6 rfl (V1 rfl rfl rfl) (fun hc => Aq4 rfl (B1 rfl hc) (B1 rfl hc)) ?_
  refine R3 ?_
  refine A8 (A0 rfl) ?_ ?_
  ·intro h34
   have hfin : l3Writes l = false := by unfold l3Writes; rw [hinv.2]; cases hg : t3 x with | false => (rw [AZ2 hx hg]; simp) | true => (have hb : 0 < i ∧ wLess y x = false := (by unfold t3 at hg; unfold wLess; simp_all; try grind); rw [AK4 hx hy hb.1 hb.2]; simp)
   refine R5 ?_
   exact D5 rfl (A6 rfl qz145)
  intro h34
  have hg : t3 x = true ∧ (0 < i → wLess y x = true) := by unfold t3 wLess; simp_all
  refine R5 ?_
  refine F3 i (i + 1) ?_ ?_ (O3 1 ⟨rfl, rfl, rfl, rfl, trivial⟩)
  ·exact ⟨by omega, by rw [hinv.2, AZ1 hx hg.1, AK3 hx hy hg.2]⟩
  omega
 intro h8
 have k8 := of_decide_eq_false h8; try simp only [A5] at k8
 have hge : l.length ≤ i := by omega
 refine R9 ?_
 exact D5 rfl (A6 rfl qz145)
theorem Bp2 (l : List A9) (hs : sizeL A9.size l ≤ 1048576) : B9 Tryz.prog 115 [AV.list 3 (l.map A9.cs)] (AV.bool (l5Rows l)) := by
 refine B7 Tryz.func115 rfl Tryz.ntmps115 rfl ?_
 refine S0 (t := 0) rfl fun hl => ?_
 try simp only [A5] at hl
 refine R12 ?_
 refine E5 [(0, _), (5, _), (6, _)] _ (fun (i : Nat) => i ≤ l.length ∧ l.all (fun w => !w.Gone) = (l.drop i).all (fun w => !w.Gone)) (fun (i : Nat) => []) (fun (i : Nat) => [(7, AV.int i)]) (fun (i : Nat) => l.length - i) (0) ?_ (F2 ⟨rfl, rfl, rfl, rfl, trivial⟩) ?_
 ·exact ⟨Nat.zero_le _, rfl⟩
 intro i hinv
 refine R5 ?_
 refine A8 (A0 rfl) ?_ ?_
 ·intro h8
  have k8 := of_decide_eq_true h8; try simp only [A5] at k8
  have hlt : i < l.length := by omega
  obtain ⟨x, hx⟩ := get_some hlt
  refine R5 ?_
  refine A4 rfl (C7 rfl C0 E9 (A0 rfl) (A0 rfl) hx qz4) ?_
  refine R2 ?_
  intro b4
  refine R7 ?_
  refine A8 (A0 rfl) ?_ ?_
  ·intro h12
   refine R5 ?_
   exact D5 rfl (A6 rfl qz128)
  intro h12
  refine R5 ?_
  refine F3 i (i + 1) ?_ ?_ (O3 1 ⟨rfl, rfl, rfl, rfl, trivial⟩)
  ·exact ⟨by omega, by rw [hinv.2, AZ1 hx (by rw [h12]; rfl)]⟩
  omega
 intro h8
 have k8 := of_decide_eq_false h8; try simp only [A5] at k8
 have hge : l.length ≤ i := by omega
 refine R4 ?_
 refine A4 rfl (B2 rfl Tryz.call69 rfl (AU9 _ T0) (A1 (A0 rfl) A7)) ?_
 refine R3 ?_
 exact D5 rfl (A6 rfl qz128)
theorem BI9 (w : A9) (k : Str) : B9 Tryz.prog 79 [AV.agg w.cs, AV.str k] (AV.int (Av4 k w)) := by
  refine B7 Tryz.func79 rfl Tryz.ntmps79 rfl ?_
  refine R3 ?_
  intro b2
  refine R7 ?_
  refine A4 rfl (B2 rfl Tryz.call80 rfl (Bp1 _ _) (A1 (A0 rfl) (A1 (A0 rfl) A7))) ?_
  refine R3 ?_
  exact D5 rfl (A6 rfl U6)
theorem AQ5 (l : List A9) (k : Str) (hs : l.length ≤ 4611686018427387903) : B9 Tryz.prog 47 [AV.list 3 (l.map A9.cs), AV.str k] (AV.tup [AV.int (wPos l k), AV.bool (wHas l k)]) := by
  refine B7 Tryz.func47 rfl Tryz.ntmps47 rfl ?_
  refine R9 ?_
  refine A4 rfl (B2 rfl Tryz.call78 rfl (Af3 _ _ _ Aq0 _ qz8) (A1 (A0 rfl) (A1 (A0 rfl) (A1 (ev_fun2 Tryz.call79 (fun w k (_ : True) => BI9 w k)) A7)))) ?_
  refine R6 ?_
  exact W6 rfl D0 (B6 (A6 rfl U6) (B6 (A6 rfl U6) E8))
theorem Bz9 (l : List A9) (k : Str) (hs : l.length ≤ 4611686018427387903) : B9 Tryz.prog 88 [AV.list 3 (l.map A9.cs), AV.str k] (AV.agg (gotOf l k).cs) := by
 refine B7 Tryz.func88 rfl Tryz.ntmps88 rfl ?_
 refine R3 ?_
 intro b4
 refine R5 ?_
 refine A4 rfl (B2 rfl Tryz.call47 rfl (AQ5 _ _ qz8) (A1 (A0 rfl) (A1 (A0 rfl) A7))) ?_
 refine R12 ?_
 refine A8 (A0 rfl) ?_ ?_
 ·intro h14
  have hn : wHas l k = false := by simpa using h14
  have he : gotOf l k = ⟨k, [], false⟩ := by unfold gotOf; rw [hn]; rfl
  rw [he]
  refine R7 ?_
  exact D5 rfl (G7 (ys := _) 0 rfl rfl AC6 O5 rfl)
 intro h14
 have hn : wHas l k = true := by simpa using h14
 obtain ⟨w, hw⟩ : ∃ w, l[wPos l k]? = some w := by unfold wHas BR7 at hn; cases hp : l[wPos l k]? with | none => (rw [hp] at hn; cases hn) | some w => exact ⟨w, rfl⟩
 have he : gotOf l k = ⟨k, w.Val, true⟩ := by unfold gotOf; rw [hn, if_pos rfl, hw]
 rw [he]
 refine R6 ?_
 refine A4 rfl (C7 rfl C0 E9 (A0 rfl) (A0 rfl) hw rfl) ?_
 refine R6 ?_
 exact D5 rfl (G7 (ys := _) 0 rfl rfl AC6 O5 rfl)
theorem AZ9 {c : C4} {n : Nat} (h : c.size ≤ n) : c.Key.length ≤ n ∧ c.Vers.length ≤ n ∧ sizeL U1.size c.Vers ≤ n := by
  unfold C4.size at h
  have : c.Vers.length ≤ n := Nat.le_trans L7 (show sizeL U1.size c.Vers ≤ n by omega)
  omega
theorem Bp3 (t : Int) : B9 Tryz.prog 64 [AV.int t] (AV.bool (isTrue t)) := by
  refine B7 Tryz.func64 rfl Tryz.ntmps64 rfl ?_
  refine R7 ?_
  refine A4 rfl (B2 rfl Tryz.call25 rfl (u5 _ _ _) (A1 (A0 rfl) (A1 D8 (A1 D8 A7)))) ?_
  refine R3 ?_
  exact D5 rfl (A6 rfl U6)
theorem Bp4 (t : Int) : B9 Tryz.prog 239 [AV.int t] (AV.bool (within t 1 100000)) := by
  refine B7 Tryz.func239 rfl Tryz.ntmps239 rfl ?_
  refine R7 ?_
  refine A4 rfl (B2 rfl Tryz.call30 rfl (N5 _ _ _) (A1 (A0 rfl) (A1 D8 (A1 D8 A7)))) ?_
  refine R3 ?_
  exact D5 rfl (A6 rfl U6)
theorem Af4 (t : Int) : B9 Tryz.prog 67 [AV.int t] (AV.bool (isTrue t)) := by
  refine B7 Tryz.func67 rfl Tryz.ntmps67 rfl ?_
  refine R7 ?_
  refine A4 rfl (B2 rfl Tryz.call30 rfl (N5 _ _ _) (A1 (A0 rfl) (A1 D8 (A1 D8 A7)))) ?_
  refine R3 ?_
  exact D5 rfl (A6 rfl U6)
theorem Bp5 (c : C4) (hs : c.size ≤ 4194304) : B9 Tryz.prog 251 [AV.agg c.cs] (AV.bool (l3Cell c)) := by
 have hcl := AZ9 hs
 refine B7 Tryz.func251 rfl Tryz.ntmps251 rfl ?_
 refine R3 ?_
 intro b1
 refine R11 ?_
 refine E5 [(1, _), (6, _), (7, _)] _ (fun (i : Nat) => i ≤ c.Vers.length ∧ (c.Vers.all (AB4 c.Key) && adj AH3 c.Vers) = ((c.Vers.drop i).all (AB4 c.Key) && adj AH3 (c.Vers.drop (i - 1)))) (fun (i : Nat) => []) (fun (i : Nat) => [(8, AV.int i)]) (fun (i : Nat) => c.Vers.length - i) (0) ?_ (F2 ⟨rfl, rfl, rfl, rfl, trivial⟩) ?_
 ·exact ⟨Nat.zero_le _, rfl⟩
 intro i hinv
 refine R5 ?_
 refine A8 (A0 rfl) ?_ ?_
 ·intro h9
  have k9 := of_decide_eq_true h9; try simp only [A5] at k9
  have hlt : i < c.Vers.length := by omega
  obtain ⟨x, hx⟩ := get_some hlt
  obtain ⟨y, hy⟩ := get_some (show i - 1 < c.Vers.length by omega)
  have hsx : x.size ≤ 4194304 := Nat.le_trans (X1 hx) hcl.2.2
  unfold U1.size at hsx
  refine R6 ?_
  refine A4 rfl (C7 rfl U8 c6 (A0 rfl) (A0 rfl) hx qz4) ?_
  refine R2 ?_
  intro b4
  refine R7 ?_
  refine C2 rfl rfl (B2 rfl Tryz.call239 rfl (Bp4 _) (A1 (A0 rfl) A7)) ?_
  refine R8 ?_
  refine M6 rfl (V7 rfl rfl rfl) (fun hc => B2 rfl Tryz.call101 rfl (At1 _ _ _ qz8 qz8) (A1 (B1 rfl hc) (A1 (B1 rfl hc) (A1 (B1 rfl hc) A7)))) ?_
  refine R10 ?_
  refine M6 rfl (V1 rfl rfl rfl) (fun hc => C7 rfl U8 c6 (B1 rfl hc) (B1 rfl hc) hy qz6) ?_
  refine R8 ?_
  refine A8 (A0 rfl) ?_ ?_
  ·intro h42
   have hfin : l3Cell c = false := by unfold l3Cell; rw [hinv.2]; cases hg : AB4 c.Key x with | false => (rw [AZ2 hx hg]; simp) | true => (have hb : 0 < i ∧ AH3 y x = false := (by unfold AB4 at hg; unfold AH3; simp_all; try grind); rw [AK4 hx hy hb.1 hb.2]; simp)
   refine R5 ?_
   exact D5 rfl (A6 rfl qz153)
  intro h42
  have hg : AB4 c.Key x = true ∧ (0 < i → AH3 y x = true) := by unfold AB4 AH3; simp_all
  refine R5 ?_
  refine F3 i (i + 1) ?_ ?_ (O3 1 ⟨rfl, rfl, rfl, rfl, trivial⟩)
  ·exact ⟨by omega, by rw [hinv.2, AZ1 hx hg.1, AK3 hx hy hg.2]⟩
  omega
 intro h9
 have k9 := of_decide_eq_false h9; try simp only [A5] at k9
 have hge : c.Vers.length ≤ i := by omega
 refine R5 ?_
 refine A4 rfl (B2 rfl Tryz.call99 rfl (AA9 _ qz8) (A1 (A0 rfl) A7)) ?_
 refine R4 ?_
 refine L3 rfl (fun hc => B2 rfl Tryz.call30 rfl (N5 _ _ _) (A1 (B1 rfl hc) (A1 D8 (A1 D8 A7)))) ?_
 refine R4 ?_
 exact D5 rfl (A6 rfl qz153)
theorem Az8 (l : List C4) (hs : sizeL C4.size l ≤ 4194304) : B9 Tryz.prog 238 [AV.list 2 (l.map C4.cs)] (AV.bool (l3Good l)) := by
 refine B7 Tryz.func238 rfl Tryz.ntmps238 rfl ?_
 refine S0 (t := 0) rfl fun hl => ?_
 try simp only [A5] at hl
 refine R12 ?_
 refine E5 [(0, _), (5, _), (6, _)] _ (fun (i : Nat) => i ≤ l.length ∧ (l.all l3Cell && adj cLess l) = ((l.drop i).all l3Cell && adj cLess (l.drop (i - 1)))) (fun (i : Nat) => []) (fun (i : Nat) => [(7, AV.int i)]) (fun (i : Nat) => l.length - i) (0) ?_ (F2 ⟨rfl, rfl, rfl, rfl, trivial⟩) ?_
 ·exact ⟨Nat.zero_le _, rfl⟩
 intro i hinv
 refine R5 ?_
 refine A8 (A0 rfl) ?_ ?_
 ·intro h8
  have k8 := of_decide_eq_true h8; try simp only [A5] at k8
  have hlt : i < l.length := by omega
  obtain ⟨x, hx⟩ := get_some hlt
  obtain ⟨y, hy⟩ := get_some (show i - 1 < l.length by omega)
  have hsx : x.size ≤ 4194304 := Nat.le_trans (X1 hx) hs
  refine R6 ?_
  refine A4 rfl (C7 rfl H7 Q0 (A0 rfl) (A0 rfl) hx qz4) ?_
  refine R2 ?_
  intro b4
  refine R6 ?_
  refine C2 rfl rfl (B2 rfl Tryz.call251 rfl (Bp5 _ T0) (A1 (A0 rfl) A7)) ?_
  refine R8 ?_
  refine M6 rfl (V1 rfl rfl rfl) (fun hc => C7 rfl H7 Q0 (B1 rfl hc) (B1 rfl hc) hy qz6) ?_
  refine R4 ?_
  refine M6 rfl (V1 rfl rfl rfl) (fun hc => Aq4 rfl (B1 rfl hc) (B1 rfl hc)) ?_
  refine R3 ?_
  refine A8 (A0 rfl) ?_ ?_
  ·intro h29
   have hfin : l3Good l = false := by unfold l3Good; rw [hinv.2]; cases hg : l3Cell x with | false => (rw [AZ2 hx hg]; simp) | true => (have hb : 0 < i ∧ cLess y x = false := (by unfold cLess; simp_all; try grind); rw [AK4 hx hy hb.1 hb.2]; simp)
   refine R5 ?_
   exact D5 rfl (A6 rfl qz146)
  intro h29
  have hg : l3Cell x = true ∧ (0 < i → cLess y x = true) := by unfold cLess; simp_all
  refine R5 ?_
  refine F3 i (i + 1) ?_ ?_ (O3 1 ⟨rfl, rfl, rfl, rfl, trivial⟩)
  ·exact ⟨by omega, by rw [hinv.2, AZ1 hx hg.1, AK3 hx hy hg.2]⟩
  omega
 intro h8
 have k8 := of_decide_eq_false h8; try simp only [A5] at k8
 have hge : l.length ≤ i := by omega
 refine R9 ?_
 exact D5 rfl (A6 rfl qz146)
theorem CH5 {c : C4} (h : 1 ≤ c.Vers.length) : ∃ v, c.Vers[c.Vers.length - 1]? = some v ∧ lastV c = v.Time := by
  obtain ⟨v, hv⟩ := get_some (show c.Vers.length - 1 < c.Vers.length by omega)
  refine ⟨v, hv, ?_⟩
  unfold lastV; rw [List.getLast?_eq_getElem?, hv]
theorem At2 (l : List C4) (k : Str) : B9 Tryz.prog 216 [AV.list 2 (l.map C4.cs), AV.str k] (AV.int (atC l k)) := by
 refine B7 Tryz.func216 rfl Tryz.ntmps216 rfl ?_
 refine S0 (t := 0) rfl fun hl => ?_
 try simp only [A5] at hl
 refine R12 ?_
 refine E5 [(1, _), (7, _), (8, _)] _ (fun (i : Nat) => i ≤ l.length ∧ ∀ j x, j < i → l[j]? = some x → x.Key ≠ k) (fun (i : Nat) => []) (fun (i : Nat) => [(9, AV.int i)]) (fun (i : Nat) => l.length - i) (0) ?_ (F2 ⟨rfl, rfl, rfl, rfl, trivial⟩) ?_
 ·exact ⟨Nat.zero_le _, fun j x h => by omega⟩
 intro i hinv
 refine R5 ?_
 refine A8 (A0 rfl) ?_ ?_
 ·intro h10
  have k10 := of_decide_eq_true h10; try simp only [A5] at k10
  have hlt : i < l.length := by omega
  obtain ⟨x, hx⟩ := get_some hlt
  refine R6 ?_
  refine A4 rfl (C7 rfl H7 Q0 (A0 rfl) (A0 rfl) hx qz4) ?_
  refine R2 ?_
  intro b6
  refine R10 ?_
  refine A8 (A0 rfl) ?_ ?_
  ·intro h17
   refine R6 ?_
   exact D5 rfl (A6 rfl qz116)
  intro h17
  refine R5 ?_
  refine F3 i (i + 1) ?_ ?_ (O3 1 ⟨rfl, rfl, rfl, rfl, trivial⟩)
  ·exact ⟨by omega, fun j y hj hy => if hji : j < i then hinv.2 j y hji hy else (by have e : j = i := qz8; subst e; rw [hx] at hy; injection hy with hy; subst hy; simpa using h17)⟩
  omega
 intro h10
 have k10 := of_decide_eq_false h10; try simp only [A5] at k10
 have hge : l.length ≤ i := by omega
 refine R6 ?_
 exact D5 rfl (A6 rfl qz116)
theorem Af5 (l : List C4) (k : Str) (ho : z9 l) (hs : sizeL C4.size l ≤ 4194304) : B9 Tryz.prog 237 [AV.list 2 (l.map C4.cs), AV.str k] (AV.int (lastTime l k)) := by
 have hl : l.length ≤ 4194304 := Nat.le_trans L7 hs
 refine B7 Tryz.func237 rfl Tryz.ntmps237 rfl ?_
 refine R8 ?_
 refine A4 rfl (B2 rfl Tryz.call216 rfl (At2 _ _) (A1 (A0 rfl) (A1 (A0 rfl) A7))) ?_
 refine R8 ?_
 refine A8 (A0 rfl) ?_ ?_
 ·intro h10
  have k10 := of_decide_eq_true h10; try simp only [A5] at k10
  have hn : findC l k = none := BP0 k10
  have he : lastTime l k = 0 := by unfold lastTime; rw [hn]
  rw [he]
  refine R5 ?_
  exact D5 rfl (A6 rfl U6)
 intro h10
 have k10 := of_decide_eq_false h10; try simp only [A5] at k10
 obtain ⟨p, c, hp, hc, hf⟩ := BP1 k10
 rw [hp]
 obtain ⟨v, hv, hlv⟩ := CH5 (ho.2 c (C6 hc))
 have hcl := AZ9 (Nat.le_trans (X1 hc) hs)
 have hc1 := ho.2 c (C6 hc)
 have he : lastTime l k = v.Time := by unfold lastTime; rw [hf]; exact hlv
 rw [he]
 refine R5 ?_
 refine C2 rfl rfl (C7 rfl H7 Q0 (A0 rfl) (A0 rfl) hc qz4) ?_
 refine R4 ?_
 refine C2 rfl rfl (C7 rfl H7 Q0 (A0 rfl) (A0 rfl) hc qz4) ?_
 refine R4 ?_
 refine C2 rfl rfl (C7 rfl U8 c6 (A0 rfl) (A0 rfl) hv qz4) ?_
 refine R5 ?_
 exact D5 rfl (A6 rfl U6)
end Go.Proofs.YtcfkbhnpfjjmjaaGreat
namespace Go.M
open Go.AV
end Go.M
namespace Go.Proofs.YtcfkbhnpfjjmjaaGreat
open Go Go.AV Go.M
attribute [local irreducible] OpW OpA OpS AWP B9 J5 C8 OpE RetOk H1 I9 Le Ev F6 J9 Int.tmod Int.tdiv IntKind.wrap
end Go.Proofs.YtcfkbhnpfjjmjaaGreat
namespace Go.M
open Go.AV
end Go.M
namespace Go.Proofs.YtcfkbhnpfjjmjaaGreat
open Go Go.AV Go.M
attribute [local irreducible] OpW OpA OpS AWP B9 J5 C8 OpE RetOk H1 I9 Le Ev F6 J9 Int.tmod Int.tdiv IntKind.wrap
end Go.Proofs.YtcfkbhnpfjjmjaaGreat
namespace Go.M
open Go.AV
end Go.M
namespace Go.Proofs.YtcfkbhnpfjjmjaaGreat
open Go Go.AV Go.M
attribute [local irreducible] OpW OpA OpS AWP B9 J5 C8 OpE RetOk H1 I9 Le Ev F6 J9 Int.tmod Int.tdiv IntKind.wrap
end Go.Proofs.YtcfkbhnpfjjmjaaGreat
namespace Go.M
open Go.AV
end Go.M
namespace Go.Proofs.YtcfkbhnpfjjmjaaGreat
open Go Go.AV Go.M
attribute [local irreducible] OpW OpA OpS AWP B9 J5 C8 OpE RetOk H1 I9 Le Ev F6 J9
end Go.Proofs.YtcfkbhnpfjjmjaaGreat
namespace Go.M
open Go.AV
structure N0 where
  p : Nat
  seed : Int
def AJ1 (l : List Int) : AV := AV.list 1 (l.map fun x => [AV.ik .u8 x])
def Q5 (code : List Int) (c : N0) : List AV := [AJ1 code, AV.int c.p, AV.ik .u64 c.seed]
def Y4 (code : List Int) : Prop := ∀ x ∈ code, 0 ≤ x ∧ x ≤ 255
theorem Bi1 {l : List Int} (h : ∀ x ∈ l, (Lit.int .u8 x).wf = true) : Y4 l := fun x hx => by
  have := h x hx
  simp only [Lit.wf, IntKind.min, IntKind.max, IntKind.signed, IntKind.bits] at this
  simp at this
  omega
theorem Ax7 {x : Int} (h : 0 ≤ x ∧ x ≤ 255) : IntKind.i64.wrap x = x := Ae8 qz8
theorem AA3 (x : Int) : 0 ≤ bandI x 255 ∧ bandI x 255 ≤ 255 := by
  unfold bandI
  have h1 : (BitVec.ofInt IntKind.u64.bits x &&& BitVec.ofInt IntKind.u64.bits 255).toNat ≤ 255 := by
    rw [BitVec.toNat_and]
    exact Nat.le_trans Nat.and_le_right D0
  generalize (BitVec.ofInt IntKind.u64.bits x &&& BitVec.ofInt IntKind.u64.bits 255).toNat = n at h1
  unfold IntKind.wrap
  simp [IntKind.bits, IntKind.signed]
  omega
def bigB (code more : List Int) : Bool := decide ((1048576 : Int) < code.length) || decide ((1048576 : Int) - code.length < more.length)
end Go.M
namespace Go.Proofs.YtcfkbhnpfjjmjaaGreat
open Go Go.AV Go.M
attribute [local irreducible] OpW OpA OpS AWP B9 J5 C8 OpE RetOk H1 I9 Le Ev F6 J9 Int.tmod IntKind.wrap bandI
theorem Az9 (b : Nat) (code : List Int) (hcode : Y4 code) (c : N0) (hp : c.p ≤ 8000000) : C8 Tryz.prog 55 [AV.ptr b 0] [.box b 55 (Q5 code c)] (fun x : N0 × Int => x.1.p ≤ c.p + 1 ∧ 0 ≤ x.2 ∧ x.2 ≤ 255) (fun x => [.box b 55 (Q5 code x.1)]) (fun x => AV.int x.2) := by
 have hcb := hcode
 refine C3 Tryz.func55 rfl Tryz.ntmps55 rfl ?_
 refine R6 ?_
 try rw [Ax7 hzb]
 refine R16 ?_
 refine A8 (A0 rfl) ?_ ?_
 ·intro h13
  have k13 := of_decide_eq_true h13; try simp only [A5] at k13
  obtain ⟨z, hz⟩ := get_some (show c.p < code.length by omega)
  have hzb := hcb z (C6 hz)
  refine R9 ?_
  refine C2 rfl rfl (C7 rfl f4 Tryz.sizeOf5 (A0 rfl) (A0 rfl) hz rfl) ?_
  refine R1 ?_
  refine C2 rfl rfl (AH8 rfl F1 d4 (A0 rfl)) ?_
  try rw [Ax7 hzb]
  refine R20 ?_
  refine A4 rfl (w_mul rfl (A0 rfl) D8) ?_
  refine R1 ?_
  refine A4 rfl (AH8 rfl F1 Tryz.underlying53 (A0 rfl)) ?_
  refine A4 rfl (BG0 rfl (A0 rfl) (A0 rfl)) ?_
  refine A4 rfl (BG0 rfl (A0 rfl) D8) ?_
  refine R18 ?_
  refine A8 (A0 rfl) ?_ ?_
  ·intro h53
   have k53 := of_decide_eq_true h53; try simp only [A5] at k53
   refine R6 ?_
   (refine G1 [0] ((⟨c.p + 1, _⟩, _)) ?_ rfl V8 (E6 rfl (A6 rfl U6)); first | exact ⟨Nat.le_refl _, hzb⟩ | exact ⟨Nat.le_refl _, Int.le_refl 0, (show (0 : Int) ≤ 255 by decide)⟩ | (rw [Ax7 (AA3 _)]; exact ⟨Nat.le_refl _, AA3 _⟩))
  intro h53
  have k53 := of_decide_eq_false h53; try simp only [A5] at k53
  refine R7 ?_
  refine A4 rfl (w_shr rfl (A0 rfl) D8 D0 D0) ?_
  refine A4 rfl (w_band rfl (A0 rfl) D8) ?_
  refine A4 rfl (AH8 rfl F1 d4 (A0 rfl)) ?_
  refine R3 ?_
  (refine G1 [0] ((⟨c.p + 1, _⟩, _)) ?_ rfl V8 (E6 rfl (A6 rfl U6)); first | exact ⟨Nat.le_refl _, hzb⟩ | exact ⟨Nat.le_refl _, Int.le_refl 0, (show (0 : Int) ≤ 255 by decide)⟩ | (rw [Ax7 (AA3 _)]; exact ⟨Nat.le_refl _, AA3 _⟩))
 intro h13
 have k13 := of_decide_eq_false h13; try simp only [A5] at k13
 refine R19 ?_
 refine A4 rfl (w_mul rfl (A0 rfl) D8) ?_
 refine R1 ?_
 refine A4 rfl (AH8 rfl F1 Tryz.underlying53 (A0 rfl)) ?_
 refine A4 rfl (BG0 rfl (A0 rfl) (A0 rfl)) ?_
 refine A4 rfl (BG0 rfl (A0 rfl) D8) ?_
 refine R18 ?_
 refine A8 (A0 rfl) ?_ ?_
 ·intro h53
  have k53 := of_decide_eq_true h53; try simp only [A5] at k53
  refine R6 ?_
  (refine G1 [0] ((⟨c.p + 1, _⟩, _)) ?_ rfl V8 (E6 rfl (A6 rfl U6)); first | exact ⟨Nat.le_refl _, hzb⟩ | exact ⟨Nat.le_refl _, Int.le_refl 0, (show (0 : Int) ≤ 255 by decide)⟩ | (rw [Ax7 (AA3 _)]; exact ⟨Nat.le_refl _, AA3 _⟩))
 intro h53
 have k53 := of_decide_eq_false h53; try simp only [A5] at k53
 refine R7 ?_
 refine A4 rfl (w_shr rfl (A0 rfl) D8 D0 D0) ?_
 refine A4 rfl (w_band rfl (A0 rfl) D8) ?_
 refine A4 rfl (AH8 rfl F1 d4 (A0 rfl)) ?_
 refine R3 ?_
 (refine G1 [0] ((⟨c.p + 1, _⟩, _)) ?_ rfl V8 (E6 rfl (A6 rfl U6)); first | exact ⟨Nat.le_refl _, hzb⟩ | exact ⟨Nat.le_refl _, Int.le_refl 0, (show (0 : Int) ≤ 255 by decide)⟩ | (rw [Ax7 (AA3 _)]; exact ⟨Nat.le_refl _, AA3 _⟩))
theorem L1 (b : Nat) (code : List Int) (hcode : Y4 code) (c : N0) (n : Int) (hn : n ≤ 1000000) (hp : c.p ≤ 7000000) : C8 Tryz.prog 22 [AV.ptr b 0, AV.int n] [.box b 55 (Q5 code c)] (fun x : N0 × Int => x.1.p ≤ c.p + 2 ∧ 0 ≤ x.2 ∧ (x.2 < n ∨ x.2 = 0)) (fun x => [.box b 55 (Q5 code x.1)]) (fun x => AV.int x.2) := by
 refine C3 Tryz.func22 rfl Tryz.ntmps22 rfl ?_
 refine R10 ?_
 refine A8 (A0 rfl) ?_ ?_
 ·intro h7
  have k7 := of_decide_eq_true h7; try simp only [A5] at k7
  refine R5 ?_
  (refine G1 [0] ((_, _)) ?_ rfl V8 (E6 rfl (A6 rfl U6)); (dsimp only; first | omega | exact ⟨by omega, Int.tmod_nonneg _ qz8, .inl (Int.tmod_lt_of_pos _ qz8)⟩))
 intro h7
 have k7 := of_decide_eq_false h7; try simp only [A5] at k7
 refine R4 ?_
 refine E4 [0] rfl rfl rfl rfl Tryz.call55 rfl (Az9 _ _ hcode _ qz8) (A1 (A0 rfl) A7) rfl ?_
 intro x9 ok9
 refine R8 ?_
 refine A8 (A0 rfl) ?_ ?_
 ·intro h11
  have k11 := of_decide_eq_true h11; try simp only [A5] at k11
  refine R2 ?_
  refine A4 rfl (AT1 rfl (A0 rfl) D8 qz4) ?_
  refine R1 ?_
  refine E4 [0] rfl rfl rfl rfl Tryz.call55 rfl (Az9 _ _ hcode _ qz8) (A1 (A0 rfl) A7) rfl ?_
  intro x15 ok15
  refine R7 ?_
  refine A4 rfl (Aj5 rfl (A0 rfl) (A0 rfl) qz8) ?_
  refine R3 ?_
  (refine G1 [0] ((_, _)) ?_ rfl V8 (E6 rfl (A6 rfl U6)); (dsimp only; first | omega | exact ⟨by omega, Int.tmod_nonneg _ qz8, .inl (Int.tmod_lt_of_pos _ qz8)⟩))
 intro h11
 have k11 := of_decide_eq_false h11; try simp only [A5] at k11
 refine R5 ?_
 refine A4 rfl (Aj5 rfl (A0 rfl) (A0 rfl) qz8) ?_
 refine R3 ?_
 (refine G1 [0] ((_, _)) ?_ rfl V8 (E6 rfl (A6 rfl U6)); (dsimp only; first | omega | exact ⟨by omega, Int.tmod_nonneg _ qz8, .inl (Int.tmod_lt_of_pos _ qz8)⟩))
theorem AB0 (b : Nat) (code : List Int) (hcode : Y4 code) (c : N0) (n : Int) (hn : n ≤ 1000000) (hp : c.p ≤ 7000000) : C8 Tryz.prog 53 [AV.ptr b 0, AV.int n] [.box b 55 (Q5 code c)] (fun x : N0 × Bool => x.1.p ≤ c.p + 2) (fun x => [.box b 55 (Q5 code x.1)]) (fun x => AV.bool x.2) := by
  refine C3 Tryz.func53 rfl Tryz.ntmps53 rfl ?_
  refine R8 ?_
  refine E4 [0] rfl rfl rfl rfl Tryz.call22 rfl (L1 _ _ hcode _ _ qz8 qz8) (A1 (A0 rfl) (A1 (A0 rfl) A7)) rfl ?_
  intro x7 ok7
  refine R4 ?_
  (refine G1 [0] ((_, _)) ?_ rfl V8 (E6 rfl (A6 rfl B0)); exact ok7.1)
theorem CH6 (b : Nat) (code : List Int) (hcode : Y4 code) (c : N0) (l : List Str) (hl : (∀ s ∈ l, s.length ≤ 64) ∧ 1 ≤ l.length ∧ l.length ≤ 1000) (hp : c.p ≤ 7000000) : C8 Tryz.prog 133 [AV.ptr b 0, strs l] [.box b 55 (Q5 code c)] (fun x : N0 × Str => x.1.p ≤ c.p + 2 ∧ x.2.length ≤ 64) (fun x => [.box b 55 (Q5 code x.1)]) (fun x => AV.str x.2) := by
  obtain ⟨hls, hl1, hl2⟩ := hl
  refine C3 Tryz.func133 rfl Tryz.ntmps133 rfl ?_
  refine R2 ?_
  refine A4 rfl (D4 rfl (L4 (l := []) rfl)) ?_
  refine R7 ?_
  refine E4 [0] rfl rfl rfl rfl Tryz.call22 rfl (L1 _ _ hcode _ _ g9 qz8) (A1 (A0 rfl) (A1 (A0 rfl) A7)) rfl ?_
  intro x9 ok9
  simp only [A5] at ok9
  obtain ⟨y, hy⟩ := get_some (show x9.2.toNat < l.length by omega)
  refine A4 rfl (C7 rfl F7 K1 (A0 rfl) (A0 rfl) hy qz8) ?_
  refine R4 ?_
  (refine G1 [0] ((_, _)) ?_ rfl V8 (E6 rfl (A6 rfl B0)); exact ⟨ok9.1, hls _ (C6 hy)⟩)
theorem m2 (b : Nat) (code : List Int) (hcode : Y4 code) (c : N0) (l : List Int) (hl : 1 ≤ l.length ∧ l.length ≤ 1000) (hp : c.p ≤ 7000000) : C8 Tryz.prog 156 [AV.ptr b 0, ints l] [.box b 55 (Q5 code c)] (fun x : N0 × Int => x.1.p ≤ c.p + 2 ∧ x.2 ∈ l) (fun x => [.box b 55 (Q5 code x.1)]) (fun x => AV.int x.2) := by
  obtain ⟨hl1, hl2⟩ := hl
  refine C3 Tryz.func156 rfl Tryz.ntmps156 rfl ?_
  refine R10 ?_
  refine E4 [0] rfl rfl rfl rfl Tryz.call22 rfl (L1 _ _ hcode _ _ g9 qz8) (A1 (A0 rfl) (A1 (A0 rfl) A7)) rfl ?_
  intro x9 ok9
  simp only [A5] at ok9
  obtain ⟨y, hy⟩ := get_some (show x9.2.toNat < l.length by omega)
  refine A4 rfl (C7 rfl B3 B4 (A0 rfl) (A0 rfl) hy qz8) ?_
  refine R4 ?_
  (refine G1 [0] ((_, _)) ?_ rfl V8 (E6 rfl (A6 rfl B0)); exact ⟨ok9.1, C6 hy⟩)
end Go.Proofs.YtcfkbhnpfjjmjaaGreat
namespace Go.Proofs.YtcfkbhnpfjjmjaaGreat
open Go Go.AV Go.M
attribute [local irreducible] OpW OpA OpS AWP B9 J5 C8 OpE RetOk H1 I9 Le Ev F6 J9
theorem big_spec (code more : List Int) : B9 Tryz.prog 5 [AJ1 code, AJ1 more] (AV.bool (bigB code more)) := by
 refine B7 Tryz.func5 rfl Tryz.ntmps5 rfl ?_
 refine S0 (t := 0) rfl fun hl0 => ?_
 try simp only [A5] at hl0
 refine S0 (t := 1) rfl fun hl1 => ?_
 try simp only [A5] at hl1
 refine R14 ?_
 refine P4 rfl (fun hc => w_subi rfl D8 (B1 rfl hc) g9) ?_
 refine R5 ?_
 exact D5 rfl (A6 rfl (by (refine congrArg AV.bool ?_; unfold bigB; simp only [A5])))
end Go.Proofs.YtcfkbhnpfjjmjaaGreat
namespace Go.Proofs.YtcfkbhnpfjjmjaaGreat
open Go Go.AV Go.M
attribute [local irreducible] OpW OpA OpS AWP B9 J5 C8 OpE RetOk H1 I9 Le Ev F6 J9 Int.tmod Int.tdiv IntKind.wrap bandI
end Go.Proofs.YtcfkbhnpfjjmjaaGreat
namespace Go.Proofs.YtcfkbhnpfjjmjaaGreat
open Go Go.AV Go.M
attribute [local irreducible] OpW OpA OpS AWP B9 J5 C8 OpE RetOk H1 I9 Le Ev F6 J9 Int.tmod Int.tdiv IntKind.wrap
theorem AE8 (t : Int) : B9 Tryz.prog 239 [AV.int t] (AV.bool (within t 1 100000)) := by
  refine B7 Tryz.func239 rfl Tryz.ntmps239 rfl ?_
  refine R7 ?_
  refine A4 rfl (B2 rfl Tryz.call30 rfl (N5 _ _ _) (A1 (A0 rfl) (A1 D8 (A1 D8 A7)))) ?_
  refine R3 ?_
  exact D5 rfl (A6 rfl U6)
theorem CH7 {r : L2} (hs : r.size ≤ 1048576) : (∀ k ∈ r.Reads, k.length ≤ 4611686018427387904) ∧ sizeL A9.size r.Writes ≤ 1048576 ∧ r.Reads.length ≤ 1048576 ∧ r.Writes.length ≤ 1048576 := by
  unfold L2.size at hs
  have h1 := L7 (f := fun x : Str => x.length) (l := r.Reads)
  have h2 := L7 (f := A9.size) (l := r.Writes)
  exact ⟨fun k hk => by have := Ac3 (f := fun x : Str => x.length) hk; omega, by omega, by omega, by omega⟩
theorem Bp6 (l : List Str) (hs : ∀ k ∈ l, k.length ≤ 4611686018427387904) : B9 Tryz.prog 240 [strs l] (AV.bool (l4Keys l)) := by
 refine B7 Tryz.func240 rfl Tryz.ntmps240 rfl ?_
 refine S0 (t := 0) rfl fun hl => ?_
 try simp only [A5] at hl
 refine R12 ?_
 refine E5 [(0, _), (5, _), (6, _)] _ (fun (i : Nat) => i ≤ l.length ∧ (l.all l3Key && adj Op.bytesLess l) = ((l.drop i).all l3Key && adj Op.bytesLess (l.drop (i - 1)))) (fun (i : Nat) => []) (fun (i : Nat) => [(7, AV.int i)]) (fun (i : Nat) => l.length - i) (0) ?_ (F2 ⟨rfl, rfl, rfl, rfl, trivial⟩) ?_
 ·exact ⟨Nat.zero_le _, rfl⟩
 intro i hinv
 refine R5 ?_
 refine A8 (A0 rfl) ?_ ?_
 ·intro h8
  have k8 := of_decide_eq_true h8; try simp only [A5] at k8
  have hlt : i < l.length := by omega
  obtain ⟨x, hx⟩ := get_some hlt
  obtain ⟨y, hy⟩ := get_some (show i - 1 < l.length by omega)
  have hsx := hs x (C6 hx)
  refine R6 ?_
  refine A4 rfl (AA6 rfl F7 K1 (A0 rfl) (A0 rfl) qz8 qz135) ?_
  refine R7 ?_
  refine A4 rfl (B2 rfl Tryz.call99 rfl (AA9 _ qz8) (A1 (A0 rfl) A7)) ?_
  refine R8 ?_
  refine f5 rfl rfl (V1 rfl rfl rfl) (fun hc => AA6 rfl F7 K1 (B1 rfl hc) (B1 rfl hc) qz186 qz89) ?_
  refine R2 ?_
  refine f5 rfl rfl (V1 rfl rfl rfl) (fun hc => Aq4 rfl (B1 rfl hc) (B1 rfl hc)) ?_
  refine R3 ?_
  refine A8 (A0 rfl) ?_ ?_
  ·intro h27
   have hfin : (l.all l3Key && adj Op.bytesLess l) = false := by rw [hinv.2, drop_some hx, List.all_cons]; cases hg : l3Key x with | false => simp | true => (simp only [hg, Bool.not_true, Bool.false_or, Bool.and_eq_true, decide_eq_true_eq, Bool.not_eq_true'] at h27; rw [AK4 hx hy qz8 h27.2]; simp)
   refine R5 ?_
   exact D5 rfl (A6 rfl qz131)
  intro h27
  refine R5 ?_
  refine F3 i (i + 1) ?_ ?_ (F2 ⟨rfl, rfl, rfl, rfl, trivial⟩)
  ·exact ⟨by omega, by rw [hinv.2, drop_some hx, List.all_cons, AK3 hx hy (fun h0 => by simp_all), show l3Key x = true by simp_all, Bool.true_and]⟩
  omega
 intro h8
 have k8 := of_decide_eq_false h8; try simp only [A5] at k8
 have hge : l.length ≤ i := by omega
 refine R9 ?_
 exact D5 rfl (A6 rfl qz131)
theorem BA0 (r : L2) (hs : r.size ≤ 1048576) : B9 Tryz.prog 226 [AV.agg r.cs] (AV.bool (l4Good r)) := by
 obtain ⟨hr1, hr2, hr3, hr4⟩ := CH7 hs
 refine B7 Tryz.func226 rfl Tryz.ntmps226 rfl ?_
 refine R3 ?_
 intro b1
 refine R24 ?_
 refine A8 (A0 rfl) ?_ ?_
 ·intro h20
  have ho : AV3 r = true := by (unfold AV3; simpa using h20)
  refine R5 ?_
  exact D5 rfl (A6 rfl BN8)
 intro h20
 have ho : AV3 r = false := by (unfold AV3; simpa using h20)
 refine R13 ?_
 refine A8 (A0 rfl) ?_ ?_
 ·intro h23
  have k23 := D2 h23; try simp only [A5] at k23
  refine R4 ?_
  refine A4 rfl (B2 rfl Tryz.call30 rfl (N5 _ _ _) (A1 (A0 rfl) (A1 D8 (A1 D8 A7)))) ?_
  refine R3 ?_
  refine L3 rfl (fun hc => B2 rfl Tryz.call239 rfl (AE8 _) (A1 (B1 rfl hc) A7)) ?_
  refine R4 ?_
  refine L3 rfl (fun hc => B2 rfl Tryz.call30 rfl (N5 _ _ _) (A1 (B1 rfl hc) (A1 D8 (A1 D8 A7)))) ?_
  refine R4 ?_
  refine L3 rfl (fun hc => B2 rfl Tryz.call240 rfl (Bp6 r.Reads hr1) (A1 (B1 rfl hc) A7)) ?_
  refine R4 ?_
  refine L3 rfl (fun hc => B2 rfl Tryz.call69 rfl (AU9 r.Writes qz8) (A1 (B1 rfl hc) A7)) ?_
  refine R5 ?_
  refine L3 rfl (fun hc => B2 rfl Tryz.call30 rfl (N5 _ _ _) (A1 (B1 rfl hc) (A1 D8 (A1 D8 A7)))) ?_
  refine R19 ?_
  exact D5 rfl (A6 rfl BN8)
 intro h23
 have k23 := D6 h23; try simp only [A5] at k23
 refine R6 ?_
 refine A8 (A0 rfl) ?_ ?_
 ·intro h69
  have k69 := D2 h69; try simp only [A5] at k69
  refine R1 ?_
  refine A8 (A0 rfl) ?_ ?_
  ·intro h69
   have k69 := D2 h69; try simp only [A5] at k69
   refine R4 ?_
   refine A4 rfl (B2 rfl Tryz.call30 rfl (N5 _ _ _) (A1 (A0 rfl) (A1 D8 (A1 D8 A7)))) ?_
   refine R6 ?_
   refine f5 rfl rfl (V1 rfl rfl rfl) (fun hc => B2 rfl Tryz.call239 rfl (AE8 _) (A1 (B1 rfl hc) A7)) ?_
   refine R15 ?_
   exact D5 rfl (A6 rfl BN8)
  intro h69
  have k69 := D6 h69; try simp only [A5] at k69
  refine R14 ?_
  refine L3 rfl (fun hc => B2 rfl Tryz.call239 rfl (AE8 _) (A1 (B1 rfl hc) A7)) ?_
  refine R9 ?_
  exact D5 rfl (A6 rfl BN8)
 intro h69
 have k69 := D6 h69; try simp only [A5] at k69
 refine R4 ?_
 refine A8 (A0 rfl) ?_ ?_
 ·intro h69
  have k69 := D2 h69; try simp only [A5] at k69
  refine R4 ?_
  refine A4 rfl (B2 rfl Tryz.call30 rfl (N5 _ _ _) (A1 (A0 rfl) (A1 D8 (A1 D8 A7)))) ?_
  refine R6 ?_
  refine f5 rfl rfl (V1 rfl rfl rfl) (fun hc => B2 rfl Tryz.call239 rfl (AE8 _) (A1 (B1 rfl hc) A7)) ?_
  refine R15 ?_
  exact D5 rfl (A6 rfl BN8)
 intro h69
 have k69 := D6 h69; try simp only [A5] at k69
 refine R14 ?_
 refine L3 rfl (fun hc => B2 rfl Tryz.call239 rfl (AE8 _) (A1 (B1 rfl hc) A7)) ?_
 refine R9 ?_
 exact D5 rfl (A6 rfl BN8)
theorem Aa0 (r : L2) (hs : r.size ≤ 1048576) : B9 Tryz.prog 207 [AV.agg r.cs] (AV.bool (l4Good r)) := by
  refine B7 Tryz.func207 rfl Tryz.ntmps207 rfl ?_
  refine R3 ?_
  intro b1
  refine R5 ?_
  refine A4 rfl (B2 rfl Tryz.call226 rfl (BA0 _ T0) (A1 (A0 rfl) A7)) ?_
  refine R3 ?_
  exact D5 rfl (A6 rfl U6)
end Go.Proofs.YtcfkbhnpfjjmjaaGreat
namespace Go.AV
open Go.Sort
section ordered
variable {P : Program} {f : FuncId} {t : TypeId} {α : Type} [Inhabited α]
end ordered
end Go.AV
namespace Go.Proofs
open Go.Shelf
end Go.Proofs
namespace Go.Proofs.YtcfkbhnpfjjmjaaGreat
open Go Go.AV Go.M
attribute [local irreducible] OpW OpA OpS AWP B9 J5 C8 OpE RetOk H1 I9 Le Ev F6 J9 Int.tmod Int.tdiv IntKind.wrap
theorem BV9 (x y : A9) : (x.Key == y.Key && (x.Val == y.Val && (x.Gone == y.Gone && true))) = decide (x = y) := by
  cases x; cases y
  rw [Bool.eq_iff_iff]
  simp
theorem str_at {l : List Str} {i j : Nat} {s : Str} (h : l[i]? = some s) (hj : j = i * 1) : ((l.map fun s => [AV.str s]).flatten)[j]? = some (AV.str s) := by
  rw [hj, Nat.mul_one]
  have e : (l.map fun s => [AV.str s]).flatten = l.map AV.str := by
    clear h
    induction l with
    | nil => rfl
    | cons x l ih => simp [ih]
  rw [e, List.getElem?_map, h]; rfl
end Go.Proofs.YtcfkbhnpfjjmjaaGreat
namespace Go.M
open Go.AV
theorem BW0 {l : List A9} (h : adj wLess l = true) (k : Str) : wHas l k = hasK l k := by
  have e := findW_eq h k
  cases hw : wHas l k with
  | true =>
    obtain ⟨x, hx, hk⟩ := AQ0.1 hw
    exact (p5.2 ⟨x, C6 hx, hk⟩).symm
  | false =>
    rw [hw] at e
    simp only [Bool.false_eq_true, if_false] at e
    unfold findW at e
    rw [List.find?_eq_none] at e
    cases hk : hasK l k with
    | false => rfl
    | true => obtain ⟨x, hx, hxk⟩ := p5.1 hk; have := e x hx; simp [hxk] at this
theorem CA0 {w : List A9} (h : goodWrites w = true) : adj wLess w = true := by
  unfold goodWrites areRising M2 at h
  simp only [Bool.and_eq_true] at h
  have := h.1.2.2
  rw [Ax3] at this
  exact this
theorem AL9 {l : List E7} {i : Nat} {h : E7} {n : Nat} (hs : sizeL E7.size l ≤ n) (hx : l[i]? = some h) : h.size ≤ n ∧ sizeL A9.size h.Writes ≤ n ∧ h.Writes.length ≤ n ∧ h.Reads.length ≤ n ∧ (hRec h).size ≤ n := by
  have h1 := Nat.le_trans (X1 hx) hs
  have h2 : h.size = sizeL (fun x => x.length) h.Reads + sizeL A9.size h.Writes := rfl
  have h3 := L7 (f := fun x : Str => x.length) (l := h.Reads)
  have h4 := L7 (f := A9.size) (l := h.Writes)
  have h5 : (hRec h).size = sizeL (fun x => x.length) h.Reads + sizeL A9.size h.Writes := rfl
  exact ⟨by omega, by omega, by omega, by omega, by omega⟩
theorem BZ8 {α : Type} {f : α → Nat} {l : List α} (i : Nat) : sizeL f (l.take i) ≤ sizeL f l := by
  have := AN6 (f := f) (l := l.take i) (r := l.drop i)
  rw [List.take_append_drop] at this; omega
theorem BP9 : ∀ {l : List E7}, (hWs l).length ≤ sizeL E7.size l
  | [] => Nat.zero_le _
  | h :: l => by
    have ih := BP9 (l := l)
    have h4 := L7 (f := A9.size) (l := h.Writes)
    have h2 : h.size = sizeL (fun x => x.length) h.Reads + sizeL A9.size h.Writes := rfl
    rw [BD8, G2, Q7]; omega
theorem hWs_take {l : List E7} {i : Nat} {h : E7} (hx : l[i]? = some h) : hWs (l.take (i + 1)) = hWs (l.take i) ++ h.Writes := by
  rw [List.take_add_one, hx, BH7]
  show _ ++ hWs [h] = _
  rw [BD8]; simp [hWs]
theorem Bv6 {α : Type} {f : α → Int} {l : List α} (h : l.Pairwise fun a b => f a < f b) {i j : Nat} {x y : α} (hij : i < j) (hx : l[i]? = some x) (hy : l[j]? = some y) : f x < f y := by
  obtain ⟨i1, i2⟩ := List.getElem?_eq_some_iff.1 hx
  obtain ⟨j1, j2⟩ := List.getElem?_eq_some_iff.1 hy
  have := List.pairwise_iff_getElem.1 h i j i1 j1 hij
  rw [i2, j2] at this; exact this
theorem u6 {s : G6} {n : Nat} (h : s.size ≤ n) : sizeL C4.size s.Cells ≤ n ∧ sizeL E7.size s.Held ≤ n ∧ s.Told.length ≤ n ∧ s.Cells.length ≤ n ∧ s.Held.length ≤ n := by
  have h1 : s.size = sizeL C4.size s.Cells + sizeL E7.size s.Held + s.Told.length := rfl
  have h2 := L7 (f := C4.size) (l := s.Cells)
  have h3 := L7 (f := E7.size) (l := s.Held)
  exact ⟨by omega, by omega, by omega, by omega, by omega⟩
theorem CH8 {s : G6} {i : Nat} {h y : E7} (hx : s.Held[i]? = some h) (hy : s.Held[i - 1]? = some y) : heldAt s i = (!(((!goodRec (hRec h) || decide (s.Floor < h.Time)) || (decide ((0 : Int) < (i : Int)) && decide (h.Txn ≤ y.Txn)))) && (!((s.Held.take i).any fun g => clash h g) && !(h.Writes.any fun w => decide (h.Time ≤ lastTime s.Cells w.Key)))) := by
  unfold heldAt
  rw [hx]
  have h1 : BM3 s.Held i h.Txn = !(decide ((0 : Int) < (i : Int)) && decide (h.Txn ≤ y.Txn)) := by
    unfold BM3; rw [hy]; dsimp only
    congr 2
    rw [decide_eq_decide]; omega
  have h2 : ((s.Held.take i).all fun g => apart g h.Reads h.Writes) = !((s.Held.take i).any fun g => clash h g) := by
    rw [List.not_any_eq_all_not]; congr 1; funext g; rw [Az7, Bool.not_not]
  have h3 : (h.Writes.all fun w => decide (lastTime s.Cells w.Key < h.Time)) = !(h.Writes.any fun w => decide (h.Time ≤ lastTime s.Cells w.Key)) := by
    rw [List.not_any_eq_all_not]; congr 1; funext w; rw [← decide_not, decide_eq_decide]; omega
  dsimp only
  rw [h1, h2, h3]
  simp only [Bool.not_or, Bool.not_not, Bool.and_assoc]
theorem good_adj {h : E7} (hg : goodRec (hRec h) = true) : adj wLess h.Writes = true := by
  unfold goodRec hRec at hg
  rw [if_pos rfl] at hg
  unfold good1 at hg
  simp only [Bool.and_eq_true] at hg
  exact CA0 hg.1.1.2
theorem CH9 {s : G6} {i : Nat} {t y : M1} (hx : s.Told[i]? = some t) (hy : s.Told[i - 1]? = some y) : toldAt s i = (!((!isTxnR t.Txn || !((t.Yes && within t.Time 1 s.Floor) || (!t.Yes && (t.Time == 0)))) || (decide ((0 : Int) < (i : Int)) && decide (t.Txn ≤ y.Txn))) && !hasH s.Held t.Txn) := by
  unfold toldAt
  rw [hx]
  have h1 : BM4 s.Told i t.Txn = !(decide ((0 : Int) < (i : Int)) && decide (t.Txn ≤ y.Txn)) := by
    unfold BM4; rw [hy]; dsimp only
    congr 2
    rw [decide_eq_decide]; omega
  have h2 : tFits s t = ((t.Yes && within t.Time 1 s.Floor) || (!t.Yes && (t.Time == 0))) := by
    unfold tFits; cases t.Yes <;> simp
  dsimp only
  rw [h1, h2]
  generalize ((t.Yes && within t.Time 1 s.Floor) || (!t.Yes && (t.Time == 0))) = b
  simp only [Bool.not_or, Bool.not_not, Bool.and_assoc]
end Go.M
namespace Go.Proofs.YtcfkbhnpfjjmjaaGreat
open Go Go.AV Go.M
attribute [local irreducible] OpW OpA OpS AWP B9 J5 C8 OpE RetOk H1 I9 Le Ev F6 J9 Int.tmod Int.tdiv IntKind.wrap
theorem BZ9 (w : A9) (os : List A9) (rs : List Str) (hs : os.length ≤ 4611686018427387903) (ha : adj wLess os = true) : B9 Tryz.prog 84 [AV.agg w.cs, AV.eptr [AV.list 3 (os.map A9.cs)], AV.eptr [strs rs]] (AV.bool (hasK os w.Key || hasS rs w.Key)) := by
  have hwh := BW0 ha w.Key
  refine B7 Tryz.func84 rfl Tryz.ntmps84 rfl ?_
  refine R3 ?_
  intro b3
  refine R7 ?_
  refine A4 rfl (B2 rfl Tryz.call47 rfl (AQ5 _ _ qz8) (A1 (A0 rfl) (A1 (A0 rfl) A7))) ?_
  refine R13 ?_
  refine P4 rfl (fun hc => B2 rfl Tryz.call85 rfl (Ap5 _ _) (A1 (B1 rfl hc) (A1 (B1 rfl hc) A7))) ?_
  refine R4 ?_
  exact D5 rfl (A6 rfl (by exact congrArg AV.bool (by rw [hwh]; rfl)))
theorem At3 (ws : List A9) (rs : List Str) (os : List A9) (hs : os.length ≤ 4611686018427387903) (ha : adj wLess os = true) : B9 Tryz.prog 57 [AV.list 3 (ws.map A9.cs), strs rs, AV.list 3 (os.map A9.cs)] (AV.bool (overlap ws rs os)) := by
  refine B7 Tryz.func57 rfl Tryz.ntmps57 rfl ?_
  refine R2 ?_
  refine Aw6 rfl rfl rfl rfl (A0 rfl) (AY2 _ _) ?_
  intro b4
  refine Aw6 rfl rfl rfl rfl (A0 rfl) (AY2 _ _) ?_
  intro b5
  refine R5 ?_
  refine A4 rfl (Bd8 rfl rfl (A1 (A0 rfl) (A1 (A0 rfl) A7))) ?_
  refine A4 rfl (AG1 rfl Tryz.call83 rfl (AI7 _ _ _ Aq0) (W9 _) (T2 (evb (A0 rfl)) (T2 (AV9 (evb_clo2 0 1 (A0 rfl) rfl rfl) (Aj9 Tryz.call84 (fun w (_ : True) => BZ9 w _ _ T0 k0))) i0))) ?_
  refine R3 ?_
  exact D5 rfl (A6 rfl U6)
theorem keys_len {l : List C4} {h : List E7} (a b : Nat) (hl : sizeL C4.size l ≤ 1048576) (hh : sizeL E7.size h ≤ 1048576) : (g7 (l.take a) ++ M2 (hWs (h.take b))).length ≤ 2097152 := by
  have h1 := L7 (f := C4.size) (l := l)
  have h2 := BP9 (l := h.take b)
  have h3 := BZ8 (f := E7.size) (l := h) b
  unfold g7 M2
  simp only [G2, A5, H2]
  omega
end Go.Proofs.YtcfkbhnpfjjmjaaGreat
namespace Go.Proofs.YtcfkbhnpfjjmjaaGreat
open Go Go.AV Go.M
attribute [local irreducible] OpW OpA OpS AWP B9 J5 C8 OpE RetOk H1 I9 Le Ev F6
def L2.ow (c : L2) (x : Value × Value) : List Own := [.arr x.1 9 1 (c.Reads.map (fun x => [AV.str x])), .arr x.2 47 3 (c.Writes.map A9.cs)]
theorem L2.lc (c : L2) (x : Value × Value) : Z9 (L2.ow c x) (L2.ocs c x) c.cs := (D1 H0 (D1 H0 (D1 H0 (D1 H0 (D1 (J3 (C6 (i := 0) rfl) F5) (D1 (J3 (C6 (i := 1) rfl) F5) (D1 H0 V2)))))))
def j8.ow (c : j8) (x : Value × Value) : List Own := [.arr x.1 9 1 (c.Cuts.map (fun x => [AV.str x])), .arr x.2 3 1 (c.Groups.map (fun x => [AV.int x]))]
theorem j8.lc (c : j8) (x : Value × Value) : Z9 (j8.ow c x) (j8.ocs c x) c.cs := (D1 H0 (D1 (J3 (C6 (i := 0) rfl) F5) (D1 (J3 (C6 (i := 1) rfl) F5) V2)))
def TMove.ow (c : TMove) (x : Value × Value) : List Own := [.arr x.1 47 3 (c.From.map A9.cs), .arr x.2 47 3 (c.To.map A9.cs)]
theorem TMove.lc (c : TMove) (x : Value × Value) : Z9 (TMove.ow c x) (TMove.ocs c x) c.cs := (D1 H0 (D1 H0 (D1 H0 (D1 (J3 (C6 (i := 0) rfl) F5) (D1 (J3 (C6 (i := 1) rfl) F5) (D1 H0 (D1 H0 V2)))))))
end Go.Proofs.YtcfkbhnpfjjmjaaGreat
namespace Go.AV
section
variable {T X : Type} {cs : T → List AV} {ocs : T → X → List AV} {ow : T → X → List Own}
theorem CI0 {l : List T} {xs : List X} {i : Nat} {p : T} {x : X} (hi : i ≤ l.length) (h : xs.length = l.length) : (nrows ocs l xs).take i ++ ocs p x :: (nrows ocs l xs).drop i = nrows ocs (l.take i ++ p :: l.drop i) (xs.take i ++ x :: xs.drop i) := by
  unfold nrows
  rw [List.zipWith_append (by rw [H2, H2]; omega), List.zipWith_cons_cons, List.take_zipWith, List.drop_zipWith]
theorem nin_ins {l : List T} {xs : List X} {i : Nat} {p : T} {x : X} (hi : i ≤ l.length) (h : xs.length = l.length) : (ow p x ++ nin ow l xs).Perm (nin ow (l.take i ++ p :: l.drop i) (xs.take i ++ x :: xs.drop i)) := by
  have e : nin ow l xs = nin ow (l.take i) (xs.take i) ++ nin ow (l.drop i) (xs.drop i) := by
    unfold nin
    rw [← List.flatten_append, ← List.zipWith_append (by rw [H2, H2]; omega), List.take_append_drop, List.take_append_drop]
  have e2 : nin ow (l.take i ++ p :: l.drop i) (xs.take i ++ x :: xs.drop i) = nin ow (l.take i) (xs.take i) ++ (ow p x ++ nin ow (l.drop i) (xs.drop i)) := by
    unfold nin
    rw [List.zipWith_append (by rw [H2, H2]; omega), List.zipWith_cons_cons, List.flatten_append, List.flatten_cons]
  rw [e, e2, ← List.append_assoc, ← List.append_assoc]
  exact List.Perm.append_right _ List.perm_append_comm
theorem Bi2 {X : Type} {xs : List X} {i : Nat} {x : X} (hi : i ≤ xs.length) : (xs.take i ++ x :: xs.drop i).length = xs.length + 1 := by
  rw [G2, H6, H2, List.length_drop]; omega
end
end Go.AV
namespace Go.Proofs.YtcfkbhnpfjjmjaaGreat
open Go Go.AV Go.M
attribute [local irreducible] OpW OpA OpS AWP B9 J5 C8 OpE RetOk H1 I9 Le Ev F6 J9
def C4.ow (c : C4) (x : Value) : List Own := [.arr x 255 3 (c.Vers.map U1.cs)]
theorem C4.lcM {own : List Own} (c : C4) (x : Value) (h : ∀ o ∈ C4.ow c x, o ∈ own) : Z9 own (C4.ocs c x) c.cs := D1 H0 (D1 (J3 (h _ (C6 (i := 0) rfl)) F5) V2)
theorem BW1 (l : List C4) (hs : sizeL C4.size l ≤ 4194304) : C8 Tryz.prog 233 [AV.list 2 (l.map C4.cs)] [] (fun x : Value × List Value => x.2.length = l.length) (fun x => .arr x.1 260 2 (nrows C4.ocs l x.2) :: nin C4.ow l x.2) (fun x => AV.is x.1) := by
 have hl : l.length ≤ 4194304 := Nat.le_trans L7 hs
 refine C3 Tryz.func233 rfl Tryz.ntmps233 rfl ?_
 refine R2 ?_
 refine A4 rfl (D4 rfl F4) ?_
 refine R3 ?_
 refine O8 260 2 rfl rfl rfl rfl F4 ?_
 intro v3
 refine R9 ?_
 refine T8 [(2, _), (6, _), (7, _)] [] (fun (i : Nat) (v : Value) (xs : List Value) => i ≤ l.length ∧ xs.length = i) (fun (i : Nat) (v : Value) (xs : List Value) => [.arr v 260 2 (nrows C4.ocs (l.take i) xs)] ++ (nin C4.ow (l.take i) xs)) (fun (i : Nat) (v : Value) (xs : List Value) => [(3, AV.is v), (8, AV.int i)]) (fun (i : Nat) (v : Value) (xs : List Value) => l.length - i) (0) (v3) ([]) ?_ (I8 B0 ⟨rfl, rfl, rfl, rfl, rfl, trivial⟩) ?_
 ·exact ⟨Nat.zero_le _, rfl⟩
 intro i v xs hinv
 refine I5 (List.append_nil _) ?_
 refine R5 ?_
 refine A8 (A0 rfl) ?_ ?_
 ·intro h9
  have k9 := of_decide_eq_true h9; try simp only [A5] at k9
  have hlt : i < l.length := by omega
  obtain ⟨x, hx⟩ := get_some hlt
  have hsx := AZ9 (Nat.le_trans (X1 hx) hs)
  refine R5 ?_
  refine A4 rfl (C7 rfl H7 Q0 (A0 rfl) (A0 rfl) hx qz4) ?_
  refine R2 ?_
  intro b5
  refine R2 ?_
  refine M7 _ [(0, false), (1, false), (2, false), (4, false), (5, false), (3, true), (6, true), (7, false), (8, false), (9, true)] F1 F1 rfl (P1 1) ?_
  refine R5 ?_
  refine S1 rfl rfl rfl (Y6 2 <| a8 rfl U8 c6) (fun a _ => qz3) ?_
  intro v15 _
  refine S1 rfl rfl rfl (S6 2 (fun _ => rfl) (J8 (by' := 32) 2 rfl U8 Tryz.type255 rfl rfl rfl rfl rfl rfl (A0 rfl) (A0 rfl) rfl qz4)) (fun a _ => qz3) ?_
  intro v18_1 hone_v18_1
  have one_v18_1 := hone_v18_1.2
  refine M8 rfl rfl rfl (fun ext => W8 (places := #[(0, 1), (1, 1)]) rfl X9 Tryz.zeroValue260 (fun w => by kernel_rfl) rfl (E0 (A0 rfl) (V0 _) (E0 (A0 rfl) (M0 one_v18_1) T9)) rfl) ?_
  refine R1 ?_
  refine S1 rfl rfl rfl (J8 (by' := 40) 1 rfl H7 Tryz.type260 rfl rfl rfl rfl rfl rfl (A0 rfl) (A0 rfl) rfl (by rw [S8 (by rw [hinv.2, H2]; omega), P0, H2]; omega)) (fun a _ => qz3) ?_
  intro v21_2 _
  refine R3 ?_
  refine AWP.le (C1 [0, 0, 0] rfl) ?_
  refine AWP.le (O2 2 (t := nin C4.ow (l.take (i + 1)) (xs ++ [v18_1])) (AK0 (ow := C4.ow) (x := v18_1) hx hinv.2)) ?_
  refine R4 ?_
  refine N7 i v xs (i + 1) (v21_2) (xs ++ [v18_1]) ?_ ?_ (E3 1 (Eq.trans (by exact congrArg (fun z => Own.arr _ _ _ z :: _) (AG2 hx hinv.2)) (List.append_nil _).symm) ⟨rfl, rfl, rfl, rfl, rfl, trivial⟩)
  ·exact ⟨by omega, by rw [G2, hinv.2]; rfl⟩
  omega
 intro h9
 have k9 := of_decide_eq_false h9; try simp only [A5] at k9
 have hge : i = l.length := by omega
 have hxs := hinv.2.trans hge
 rw [show l.take i = l from List.take_of_length_le qz8]
 refine R7 ?_
 exact H4 [0] 0 (nin C4.ow l xs) [] (v, xs) (hxs) rfl (show List.Perm (nin C4.ow l xs) ((nin C4.ow l xs) ++ []) from B8) B0 (E6 rfl (A6 rfl U6))
end Go.Proofs.YtcfkbhnpfjjmjaaGreat
