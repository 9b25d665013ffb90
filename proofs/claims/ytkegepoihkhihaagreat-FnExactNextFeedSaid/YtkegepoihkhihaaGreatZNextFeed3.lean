/- Texts of the claim, part 3. -/
import Derived.Laws.BytesArg
import Derived.Test.YtkegepoihkhihaaGreatZNextFeed2

set_option linter.unusedVariables false
set_option linter.unusedSimpArgs false
namespace Go.M
open Go.AV
def isTrue (t : Int) : Bool := within t 0 100000
def verGood (v : TVer) : Bool := isTime v.Time && isStored v.Val v.Gone
def verLess (a b : TVer) : Bool := decide (a.Time < b.Time)
def isCell (c : TCell) : Bool := (c.Vers.all verGood && adj verLess c.Vers) && within c.Vers.length 1 16
def cKeys (l : List TCell) : List Str := l.map TCell.Key
def goodCells (l : List TCell) : Bool := l.all isCell && (decide ((l.length : Int) ≤ 24) && areRising (cKeys l))
def verGoodS (k : Str) (v : TVer) : Bool := within v.Time 1 100000 && l3Write k v.Val v.Gone
def l3Cell (c : TCell) : Bool := (c.Vers.all (verGoodS c.Key) && adj verLess c.Vers) && (l3Key c.Key && within c.Vers.length 1 16)
def cLess (a b : TCell) : Bool := Op.bytesLess a.Key b.Key
def l3Good (l : List TCell) : Bool := (l.all l3Cell && adj cLess l) && decide ((l.length : Int) ≤ 24)
theorem AS7 (c : TCell) : (isCell c && goodKey c.Key) = l3Cell c := by
  unfold isCell l3Cell
  rw [m4, Bool.eq_iff_iff]
  simp only [Bool.and_eq_true, List.all_eq_true]
  have key : ∀ v : TVer, l3Key c.Key = true → (verGood v = true ↔ verGoodS c.Key v = true) := fun v hk => by
    unfold verGood verGoodS isTime l3Write
    rw [y9, hk, Bool.true_and]
  constructor
  · rintro ⟨⟨⟨h1, h2⟩, h3⟩, h4⟩
    exact ⟨⟨fun v hv => (key v h4).1 (h1 v hv), h2⟩, h4, h3⟩
  · rintro ⟨⟨h1, h2⟩, h4, h3⟩
    exact ⟨⟨⟨fun v hv => (key v h4).2 (h1 v hv), h2⟩, h3⟩, h4⟩
theorem V8 (l : List TCell) : goodCells l = l3Good l := by
  unfold goodCells l3Good areRising cKeys
  rw [AI4, Bool.eq_iff_iff]
  simp only [Bool.and_eq_true, List.all_eq_true, List.mem_map, forall_exists_index, and_imp, forall_apply_eq_imp_iff₂]
  constructor
  · rintro ⟨h1, h2, h3, h4⟩
    exact ⟨⟨fun c hc => by rw [← AS7, h1 c hc, h3 c hc]; rfl, h4⟩, h2⟩
  · rintro ⟨⟨h1, h4⟩, h2⟩
    have h5 : ∀ c ∈ l, isCell c = true ∧ goodKey c.Key = true := fun c hc => by
      have := h1 c hc
      rw [← AS7] at this
      simpa using this
    exact ⟨fun c hc => (h5 c hc).1, h2, fun c hc => (h5 c hc).2, h4⟩
theorem Q3 {l : List TCell} (h : goodCells l = true) : l.length ≤ 24 ∧ adj cLess l = true ∧ ∀ c ∈ l, goodKey c.Key = true ∧ 1 ≤ c.Vers.length ∧ c.Vers.length ≤ 16 ∧ adj verLess c.Vers = true ∧ ∀ v ∈ c.Vers, verGood v = true := by
  have h0 := h
  rw [V8] at h
  unfold l3Good at h
  simp only [Bool.and_eq_true, List.all_eq_true, decide_eq_true_eq] at h
  refine ⟨by omega, h.1.2, fun c hc => ?_⟩
  have hcell := h.1.1 c hc
  rw [← AS7] at hcell
  simp only [Bool.and_eq_true] at hcell
  obtain ⟨h1, h2⟩ := hcell
  unfold isCell at h1
  simp only [Bool.and_eq_true, List.all_eq_true] at h1
  have h3 := h1.2
  unfold within at h3
  simp at h3
  exact ⟨h2, by omega, by omega, h1.1.2, h1.1.1⟩
def cCmp (k : Str) (c : TCell) : Int := cmpStr c.Key k
def cPos (l : List TCell) (k : Str) : Nat := bs (cCmp k) l 0 l.length
def cHas (l : List TCell) (k : Str) : Bool := bsAt (cCmp k) l (cPos l k)
theorem i9 (a b c : TCell) (h : cLess a b = true) (k : cLess b c = true) : cLess a c = true := Q2 h k
theorem Av5 {l : List TCell} (h : adj cLess l = true) (k : Str) : (∀ i x, i < cPos l k → l[i]? = some x → Op.bytesLess x.Key k = true) ∧ (∀ x, l[cPos l k]? = some x → Op.bytesLess x.Key k = false) := by
  have := AS1 (cCmp k) l (fun i j x y hij hx hy hf => by
    unfold cCmp at *
    rw [g8] at *
    exact Q2 (n7 i9 h hij hx hy) hf) l.length 0 l.length rfl (Nat.zero_le _) (Nat.le_refl _) (fun k x hk => by omega) (fun x hx => by rw [List.getElem?_eq_none (Nat.le_refl _)] at hx; cases hx)
  refine ⟨fun i x hi hx => (g8 _ _).1 (this.1 i x hi hx), fun x hx => ?_⟩
  have h2 := this.2 x hx
  unfold cCmp at h2
  rw [g8] at h2
  simpa using h2
theorem AC8 {l : List TCell} {k : Str} : cHas l k = true ↔ ∃ x, l[cPos l k]? = some x ∧ x.Key = k := by
  unfold cHas bsAt
  cases h : l[cPos l k]? with
  | none => simp
  | some x => simp [cCmp, AA1]
def findC (l : List TCell) (k : Str) : Option TCell := l.find? fun c => c.Key == k
theorem Av6 {l : List TCell} (ha : adj cLess l = true) {i j : Nat} {a b : TCell} (hi : l[i]? = some a) (hj : l[j]? = some b) (hk : a.Key = b.Key) : i = j := by
  rcases Nat.lt_trichotomy i j with hlt | heq | hgt
  · have h9 := n7 i9 ha hlt hi hj
    unfold cLess at h9; rw [hk, M4] at h9; cases h9
  · exact heq
  · have h9 := n7 i9 ha hgt hj hi
    unfold cLess at h9; rw [hk, M4] at h9; cases h9
theorem findC_at {l : List TCell} (ha : adj cLess l = true) {i : Nat} {c : TCell} (hc : l[i]? = some c) : findC l c.Key = some c := by
  unfold findC
  cases hf : l.find? (fun x => x.Key == c.Key) with
  | none => have := List.find?_eq_none.1 hf c (H5 hc); simp at this
  | some d =>
    have h1 := List.find?_some hf
    obtain ⟨j, hj⟩ := List.getElem?_of_mem (List.mem_of_find?_eq_some hf)
    have := Av6 ha hj hc (by simpa using h1)
    subst this
    rw [hc] at hj; exact hj.symm
theorem AM4 {l : List TCell} (h : adj cLess l = true) (k : Str) : findC l k = if cHas l k = true then l[cPos l k]? else none := by
  split
  · rename_i hh
    obtain ⟨x, hx, hk⟩ := AC8.1 hh
    rw [hx, ← hk]; exact findC_at h hx
  · rename_i hh
    unfold findC
    rw [List.find?_eq_none]
    intro c hc hk
    simp only [beq_iff_eq] at hk
    obtain ⟨i, hi⟩ := List.getElem?_of_mem hc
    obtain ⟨h1, h2⟩ := Av5 h k
    rcases Nat.lt_trichotomy i (cPos l k) with hlt | heq | hgt
    · have := h1 i c hlt hi
      rw [hk, M4] at this; cases this
    · subst heq; exact hh (AC8.2 ⟨c, hi, hk⟩)
    · obtain ⟨y, hy⟩ := Go.AV.get_some (show cPos l k < l.length by have := (List.getElem?_eq_some_iff.1 hi).1; omega)
      have h3 := h2 y hy
      have h4 := n7 i9 h hgt hy hi
      unfold cLess at h4
      rw [hk, h3] at h4; cases h4
def atC (l : List TCell) (k : Str) : Int := match l.findIdx? (fun c => c.Key == k) with
  | some i => (i : Int)
  | none => -1
theorem Ad6 {l : List TCell} {k : Str} {i : Nat} {x : TCell} (hx : l[i]? = some x) (hk : x.Key = k) (h : ∀ j y, j < i → l[j]? = some y → y.Key ≠ k) : atC l k = (i : Int) := by
  have hl := (List.getElem?_eq_some_iff.1 hx)
  have : l.findIdx? (fun c => c.Key == k) = some i := by
    rw [List.findIdx?_eq_some_iff_getElem]
    refine ⟨hl.1, by rw [hl.2]; simp [hk], fun j hj => ?_⟩
    have hl1 := hl.1
    simpa using h j _ hj (List.getElem?_eq_getElem (show j < l.length by omega))
  unfold atC; rw [this]
theorem Ad7 {l : List TCell} {k : Str} (h : ∀ (j : Nat) (y : TCell), l[j]? = some y → y.Key ≠ k) : atC l k = -1 := by
  have : l.findIdx? (fun c => c.Key == k) = none := by
    rw [List.findIdx?_eq_none_iff]
    intro x hx
    obtain ⟨j, hj⟩ := List.getElem?_of_mem hx
    simpa using h j x hj
  unfold atC; rw [this]
theorem An9 {l : List TCell} {k : Str} (h : atC l k < 0) : findC l k = none := by
  unfold atC at h
  cases hf : l.findIdx? (fun c => c.Key == k) with
  | some i => rw [hf] at h; simp at h; omega
  | none =>
    rw [List.findIdx?_eq_none_iff] at hf
    unfold findC
    rw [List.find?_eq_none]
    intro c hc; simp [hf c hc]
theorem Ao0 {l : List TCell} {k : Str} (h : ¬ atC l k < 0) : ∃ (p : Nat) (c : TCell), atC l k = (p : Int) ∧ l[p]? = some c ∧ findC l k = some c := by
  cases hf : l.findIdx? (fun c => c.Key == k) with
  | none => exfalso; unfold atC at h; rw [hf] at h; exact h (by decide)
  | some i =>
    have he : atC l k = (i : Int) := by unfold atC; rw [hf]
    rw [List.findIdx?_eq_some_iff_getElem] at hf
    obtain ⟨h1, h2, h3⟩ := hf
    refine ⟨i, l[i], he, List.getElem?_eq_getElem h1, ?_⟩
    unfold findC
    rw [List.find?_eq_some_iff_getElem]
    exact ⟨h2, i, h1, rfl, fun j hj => by simpa using h3 j hj⟩
def lastV (c : TCell) : Int := match c.Vers.getLast? with
  | some v => v.Time
  | none => 0
def lastTime (l : List TCell) (k : Str) : Int := match findC l k with
  | some c => lastV c
  | none => 0
def cellVal (c : TCell) (t : Int) : Str × Bool := match c.Vers.reverse.find? (fun v => decide (v.Time ≤ t)) with
  | some v => (v.Val, !v.Gone)
  | none => ([], false)
def cellsAt (l : List TCell) (t : Int) : List TWrite := l.filterMap fun c => if (cellVal c t).2 = true then some ⟨c.Key, (cellVal c t).1, false⟩ else none
def CellsOk (l : List TCell) : Prop := adj cLess l = true ∧ ∀ c ∈ l, 1 ≤ c.Vers.length
theorem V9 {l : List TCell} (h : goodCells l = true) : CellsOk l := ⟨(Q3 h).2.1, fun c hc => ((Q3 h).2.2 c hc).2.1⟩
def TCell.ocs (c : TCell) (x : Value) : List AV := [AV.str c.Key, AV.is x]
theorem Av7 {α : Type} {p : α → α → Bool} {x y : α} {l : List α} : adj p (x :: y :: l) = (p x y && adj p (y :: l)) := rfl
theorem AC9 {α : Type} {f : α → Nat} {x : α} {l : List α} : sizeL f (x :: l) = 1 + f x + sizeL f l := by unfold sizeL; simp; omega
theorem Ad8 {α : Type} {f : α → Nat} {l r : List α} : sizeL f (l ++ r) = sizeL f l + sizeL f r := by unfold sizeL; simp; omega
end Go.M

namespace Go.M
open Go.AV
def digs (k : Nat) (out : Str) : Str := if h : 0 < k then digs (k / 10) (UInt8.ofNat (48 + k % 10) :: out) else out
termination_by k
decreasing_by omega
theorem digs_pos {k : Nat} {out : Str} (h : 0 < k) : digs k out = digs (k / 10) (UInt8.ofNat (48 + k % 10) :: out) := by rw [digs, dif_pos h]
theorem Av8 {k : Nat} {out : Str} (h : ¬ 0 < k) : digs k out = out := by rw [digs, dif_neg h]
def markText (k : Int) : Str := if k ≤ 0 then [109, 48] else 109 :: digs k.toNat []
theorem tmod10 {k : Nat} : (k : Int).tmod 10 = ((k % 10 : Nat) : Int) := by rw [Int.tmod_eq_emod_of_nonneg (by omega)]; omega
theorem mk_byte {k : Nat} : IntKind.u8.wrap (48 + ((k : Int).tmod 10)) = ((UInt8.ofNat (48 + k % 10)).toNat : Int) := by
  have h1 : (k : Int).tmod 10 = ((k % 10 : Nat) : Int) := by rw [Int.tmod_eq_emod_of_nonneg (by omega)]; omega
  rw [h1]
  have h2 : (UInt8.ofNat (48 + k % 10)).toNat = 48 + k % 10 := by simp; omega
  rw [h2]
  simp only [IntKind.wrap, IntKind.bits, IntKind.signed]; simp; omega
theorem mk_quo {k : Nat} (h : k ≤ 4611686018427387904) : IntKind.i64.wrap ((k : Int).tdiv 10) = ((k / 10 : Nat) : Int) := by
  have h1 : (k : Int).tdiv 10 = ((k / 10 : Nat) : Int) := by rw [Int.tdiv_eq_ediv_of_nonneg (by omega)]; omega
  rw [h1]; exact in64 (by omega)
def m3 (k : Int) : Bool := (k.tmod 3) == 0
def marks {α : Type} (f : Int → α) (s : Int) : Nat → Int → List α
  | 0, _ => []
  | n + 1, k => f k :: marks f s n (k + s)
theorem H2 {α : Type} (f : Int → α) (s : Int) : ∀ (n : Nat) (k : Int), (marks f s n k).length = n
  | 0, _ => rfl
  | n + 1, k => by simp [marks, H2 f s n]
theorem AO9 {α : Type} (f : Int → α) (s : Int) : ∀ (n : Nat) (k : Int), marks f s (n + 1) k = marks f s n k ++ [f (k + s * n)]
  | 0, k => by simp [marks]
  | n + 1, k => by
    rw [marks, AO9 f s n (k + s)]
    simp only [marks, AN2]
    have e : k + s + s * (n : Int) = k + s * ((n + 1 : Nat) : Int) := by
      rw [Int.natCast_add, Int.mul_add, Int.natCast_one, Int.mul_one, Int.add_assoc, Int.add_comm s]
    rw [e]
theorem AW2 {α : Type} (f : Int → α) (s : Int) : ∀ (n i : Nat) (k : Int), i < n → (marks f s n k)[i]? = some (f (k + s * i))
  | n + 1, 0, k, _ => by simp [marks]
  | n + 1, i + 1, k, h => by
    have e : k + s + s * (i : Int) = k + s * ((i + 1 : Nat) : Int) := by
      rw [Int.natCast_add, Int.mul_add, Int.natCast_one, Int.mul_one, Int.add_assoc, Int.add_comm s]
    simp only [marks, getZs, AW2 f s n i (k + s) (by omega), e]
theorem u4 {α β : Type} {f : α → β} {l : List α} {i : Nat} {x : α} (h : l[i]? = some x) : (l.drop i).map f = f x :: (l.drop (i + 1)).map f := by rw [drop_some h]; rfl
theorem m7 {α : Type} {f : Int → α} {s : Int} {i : Nat} {k : Int} {g : α → List AV} {z : List AV} {B : List (List AV)} (h : g (f (k + s * i)) = z) : (marks f s i k).map g ++ z :: B = (marks f s (i + 1) k).map g ++ B := by
  rw [AO9, List.map_append, List.append_assoc, ← h]; rfl

def mkWrite (k : Int) : TWrite := ⟨markText k, markText (k + 1), m3 (k + 1 + 1)⟩
def mkVer (k : Int) : TVer := ⟨k, markText (k + 1), m3 (k + 1 + 1)⟩
def mkTold (k : Int) : TTold := ⟨k, m3 (k + 1), (k + 1 + 1)⟩
def mkFeedItem (k : Int) : TFeedItem := ⟨k, (k + 1), markText (k + 1 + 1), markText (k + 1 + 1 + 1), m3 (k + 1 + 1 + 1 + 1)⟩
def TRec.ocs (c : TRec) (x : Value × Value) : List AV := [AV.int c.Kind, AV.int c.Txn, AV.int c.Time, AV.int c.Lead, AV.is x.1, AV.is x.2, AV.bool c.Yes]
def TRec.mark (c : TRec) (k : Int) : TRec := ⟨c.Kind, c.Txn, c.Time, c.Lead, marks markText 1 c.Reads.length (k), marks mkWrite 3 c.Writes.length (k + 1 * c.Reads.length), c.Yes⟩
def TRec.markN (c : TRec) (k : Int) : Int := k + 1 * c.Reads.length + 3 * c.Writes.length
def TPlaces.ocs (c : TPlaces) (x : Value × Value) : List AV := [AV.int c.Ver, AV.is x.1, AV.is x.2]
def TPlaces.mark (c : TPlaces) (k : Int) : TPlaces := ⟨c.Ver, marks markText 1 c.Cuts.length (k), marks (fun k : Int => k) 1 c.Groups.length (k + 1 * c.Cuts.length)⟩
def TPlaces.markN (c : TPlaces) (k : Int) : Int := k + 1 * c.Cuts.length + 1 * c.Groups.length
def TMove.ocs (c : TMove) (x : Value × Value) : List AV := [AV.str c.Low, AV.str c.High, AV.int c.Phase, AV.is x.1, AV.is x.2, AV.str c.Last, AV.bool c.Over]
def TMove.mark (c : TMove) (k : Int) : TMove := ⟨c.Low, c.High, c.Phase, marks mkWrite 3 c.From.length (k), marks mkWrite 3 c.To.length (k + 3 * c.From.length), c.Last, c.Over⟩
def TMove.markN (c : TMove) (k : Int) : Int := k + 3 * c.From.length + 3 * c.To.length
end Go.M

namespace Go.M
open Go.AV
theorem x8 {α : Type} {f : α → Nat} {c : Nat} : ∀ {l : List α}, (∀ x ∈ l, f x ≤ c) → sizeL f l ≤ l.length * (c + 1)
  | [], _ => by simp [sizeL]
  | x :: l, h => by
    rw [AC9]
    have h1 := h x List.mem_cons_self
    have h2 := x8 (l := l) fun y hy => h y (List.mem_cons_of_mem _ hy)
    rw [K0, Nat.add_mul]; omega
theorem Ad9 {s : Str} (h : goodKey s = true) : s.length ≤ 12 := by
  unfold goodKey within at h
  simp only [Bool.and_eq_true, decide_eq_true_eq] at h
  omega
def TCell.markE (p : TCell) (k : Int) : TCell := ⟨markText k, marks mkVer 3 p.Vers.length (k + 1)⟩
def TCell.markEN (p : TCell) (k : Int) : Int := k + 1 + 3 * p.Vers.length
theorem TCell.markEN_le (p : TCell) (k : Int) : k ≤ p.markEN k := by unfold TCell.markEN; omega
theorem TCell.markEN_le1 (p : TCell) (k : Int) : k + 1 ≤ p.markEN k := by unfold TCell.markEN; omega
theorem AJ5 : ∀ (l : List TCell) (k : Int), countN TCell.markEN l k ≤ k + 3 * sizeL TCell.size l
  | [], k => by simp [countN, sizeL]
  | p :: l, k => by
    unfold countN
    have h1 := AJ5 l (p.markEN k)
    have h2 : p.markEN k ≤ k + 3 * p.size + 1 := by
      unfold TCell.markEN TCell.size
      have h3 : p.Vers.length ≤ sizeL TVer.size p.Vers := L4
      omega
    rw [AC9]
    omega
end Go.M

namespace Go.M
open Go.AV
theorem AY4 (a b c : TVer) (h : verLess a b = true) (k : verLess b c = true) : verLess a c = true := by
  unfold verLess at *; simp at *; omega
theorem y5 {α : Type} {p : α → α → Bool} (tr : ∀ a b c, p a b = true → p b c = true → p a c = true) : ∀ {l : List α}, adj p l = true ↔ l.Pairwise fun a b => p a b = true
  | [] => by simp [adj]
  | [x] => by simp [adj]
  | x :: y :: l => by
    constructor
    · intro h
      refine List.pairwise_cons.2 ⟨AS0 tr h, ?_⟩
      exact (y5 tr).1 (Ac8 h)
    · intro h
      obtain ⟨h1, h2⟩ := List.pairwise_cons.1 h
      rw [Av7, h1 y List.mem_cons_self, (y5 tr).2 h2]; rfl
end Go.M

namespace Go.M
open Go.AV
end Go.M

namespace Go.M
open Go.AV
def hRec (h : THeld) : TRec := ⟨1, h.Txn, h.Time, h.Lead, h.Reads, h.Writes, false⟩
def hasK (l : List TWrite) (k : Str) : Bool := l.any fun w => w.Key == k
def hasS (l : List Str) (k : Str) : Bool := l.any fun x => k == x
theorem Z8 {l : List TWrite} {k : Str} : hasK l k = true ↔ ∃ w ∈ l, w.Key = k := by unfold hasK; simp
theorem n8 {l : List Str} {k : Str} : hasS l k = true ↔ k ∈ l := by unfold hasS; simp
def overlap (ws : List TWrite) (rs : List Str) (os : List TWrite) : Bool := ws.any fun w => hasK os w.Key || hasS rs w.Key
def clash (h k : THeld) : Bool := overlap h.Writes k.Reads k.Writes || overlap k.Writes h.Reads h.Writes
def apart (h : THeld) (rs : List Str) (ws : List TWrite) : Bool := rs.all (fun k => !hasK h.Writes k) && ws.all (fun w => !(hasK h.Writes w.Key || hasS h.Reads w.Key))
theorem AW3 {h : THeld} {rs : List Str} {ws : List TWrite} : apart h rs ws = true ↔ (∀ k ∈ rs, ∀ w ∈ h.Writes, w.Key ≠ k) ∧ (∀ w ∈ ws, (∀ v ∈ h.Writes, v.Key ≠ w.Key) ∧ w.Key ∉ h.Reads) := by
  unfold apart
  simp only [Bool.and_eq_true, List.all_eq_true, Bool.not_eq_true', Bool.or_eq_false_iff]
  constructor
  · rintro ⟨h1, h2⟩
    refine ⟨fun k hk w hw e => ?_, fun w hw => ⟨fun v hv e => ?_, fun hr => ?_⟩⟩
    · have := h1 k hk; rw [Z8.2 ⟨w, hw, e⟩] at this; cases this
    · have := (h2 w hw).1; rw [Z8.2 ⟨v, hv, e⟩] at this; cases this
    · have := (h2 w hw).2; rw [n8.2 hr] at this; cases this
  · rintro ⟨h1, h2⟩
    refine ⟨fun k hk => ?_, fun w hw => ⟨?_, ?_⟩⟩
    · cases e : hasK h.Writes k with
      | false => rfl
      | true => obtain ⟨v, hv, ev⟩ := Z8.1 e; exact (h1 k hk v hv ev).elim
    · cases e : hasK h.Writes w.Key with
      | false => rfl
      | true => obtain ⟨v, hv, ev⟩ := Z8.1 e; exact ((h2 w hw).1 v hv ev).elim
    · cases e : hasS h.Reads w.Key with
      | false => rfl
      | true => exact ((h2 w hw).2 (n8.1 e)).elim
theorem AJ6 (h g : THeld) : clash h g = !apart g h.Reads h.Writes := by
  cases ha : apart g h.Reads h.Writes with
  | true =>
    obtain ⟨h1, h2⟩ := AW3.1 ha
    refine Bool.eq_false_iff.2 fun hc => ?_
    unfold clash overlap at hc
    simp only [Bool.or_eq_true, List.any_eq_true] at hc
    rcases hc with ⟨w, hw, e | e⟩ | ⟨w, hw, e | e⟩
    · obtain ⟨v, hv, ev⟩ := Z8.1 e; exact (h2 w hw).1 v hv ev
    · exact (h2 w hw).2 (n8.1 e)
    · obtain ⟨v, hv, ev⟩ := Z8.1 e; exact (h2 v hv).1 w hw ev.symm
    · exact h1 _ (n8.1 e) w hw rfl
  | false =>
    rw [Bool.not_false]
    cases hc : clash h g with
    | true => rfl
    | false =>
      rw [← ha, AW3.2]
      unfold clash overlap at hc
      simp only [Bool.or_eq_false_iff, List.any_eq_false, Bool.or_eq_true, not_or] at hc
      refine ⟨fun k hk w hw e => (hc.2 w hw).2 (n8.2 (e ▸ hk)), fun w hw => ⟨fun v hv e => (hc.1 w hw).1 (Z8.2 ⟨v, hv, e⟩), fun hr => (hc.1 w hw).2 (n8.2 hr)⟩⟩
def fullC (cells : List TCell) (k : Str) : Bool := match findC cells k with
  | some c => decide (16 ≤ c.Vers.length)
  | none => false
def hWs (l : List THeld) : List TWrite := (l.map THeld.Writes).flatten
def roomKs (cells : List TCell) (ws : List TWrite) : List Str := keysI (cKeys cells ++ wKeys ws)
def room (cells : List TCell) (ws : List TWrite) : Bool := ws.all (fun w => !fullC cells w.Key) && decide ((roomKs cells ws).length ≤ 24)
theorem AP0 (a b : List THeld) : hWs (a ++ b) = hWs a ++ hWs b := by unfold hWs; simp
theorem u5 (a : THeld) (b : List THeld) : hWs (a :: b) = a.Writes ++ hWs b := by unfold hWs; simp
theorem AM5 {α : Type} [BEq α] [LawfulBEq α] : ∀ {a b : List α}, a.Nodup → (∀ x ∈ a, x ∈ b) → a.length ≤ b.length
  | [], _, _, _ => Nat.zero_le _
  | x :: a, b, ha, h => by
    obtain ⟨h1, h2⟩ := List.nodup_cons.1 ha
    have hx := h x List.mem_cons_self
    have ih := AM5 (b := b.erase x) h2 fun y hy => (List.mem_erase_of_ne (fun e : y = x => h1 (by rw [← e]; exact hy))).2 (h y (List.mem_cons_of_mem _ hy))
    rw [List.length_erase_of_mem hx] at ih
    have := List.length_pos_of_mem hx
    rw [K0]; omega
def allB (n : Nat) (p : Nat → Bool) : Bool := (List.range n).all p
theorem e8 {n : Nat} {p : Nat → Bool} : allB n p = true ↔ ∀ i, i < n → p i = true := by unfold allB; simp
theorem V1 {n i : Nat} {p : Nat → Bool} (hi : i < n) (h : p i = false) : allB n p = false := by
  cases e : allB n p with
  | false => rfl
  | true => rw [e8.1 e i hi] at h; cases h
def hasH (l : List THeld) (n : Int) : Bool := l.any fun h => h.Txn == n
def hPrev (l : List THeld) (i : Nat) (n : Int) : Bool := match l[i - 1]? with
  | some g => !(decide (0 < i) && decide (n ≤ g.Txn))
  | none => true
def tPrev (l : List TTold) (i : Nat) (n : Int) : Bool := match l[i - 1]? with
  | some g => !(decide (0 < i) && decide (n ≤ g.Txn))
  | none => true
def heldAt (s : TState) (i : Nat) : Bool := match s.Held[i]? with
  | none => true
  | some h => (((goodRec (hRec h) && !decide (s.Floor < h.Time)) && hPrev s.Held i h.Txn) && (s.Held.take i).all fun g => apart g h.Reads h.Writes) && h.Writes.all fun w => decide (lastTime s.Cells w.Key < h.Time)
def areHeld (s : TState) : Bool := allB s.Held.length (heldAt s) && (decide (s.Held.length ≤ 12) && room s.Cells (hWs s.Held))
def tFits (s : TState) (t : TTold) : Bool := if t.Yes = true then within t.Time 1 s.Floor else t.Time == 0
def toldAt (s : TState) (i : Nat) : Bool := match s.Told[i]? with
  | none => true
  | some t => ((isTxnR t.Txn && tFits s t) && tPrev s.Told i t.Txn) && !hasH s.Held t.Txn
def goodState (s : TState) : Bool := ((((isTrue s.Floor && goodCells s.Cells) && areHeld s) && decide (s.Told.length ≤ 60)) && s.Cells.all fun c => decide (lastTime s.Cells c.Key ≤ s.Floor)) && allB s.Told.length (toldAt s)
structure GS (s : TState) : Prop where
  floor : 0 ≤ s.Floor ∧ s.Floor ≤ 100000
  cells : goodCells s.Cells = true
  good : ∀ h ∈ s.Held, goodRec (hRec h) = true ∧ h.Time ≤ s.Floor ∧ ∀ w ∈ h.Writes, lastTime s.Cells w.Key < h.Time
  hsort : s.Held.Pairwise fun a b => a.Txn < b.Txn
  apart : s.Held.Pairwise fun a b => apart a b.Reads b.Writes = true
  hlen : s.Held.length ≤ 12
  room : room s.Cells (hWs s.Held) = true
  tlen : s.Told.length ≤ 60
  last : ∀ c ∈ s.Cells, lastTime s.Cells c.Key ≤ s.Floor
  told : ∀ t ∈ s.Told, isTxnR t.Txn = true ∧ tFits s t = true ∧ hasH s.Held t.Txn = false
  tsort : s.Told.Pairwise fun a b => a.Txn < b.Txn
theorem AD0 {α : Type} {f : α → Int} {l : List α} (h : ∀ (i : Nat) (x y : α), 0 < i → l[i]? = some x → l[i - 1]? = some y → f y < f x) : l.Pairwise fun a b => f a < f b := by
  have key : ∀ (j i : Nat) (x y : α), i < j → l[j]? = some x → l[i]? = some y → f y < f x := by
    intro j
    induction j with
    | zero => intro i x y hi; omega
    | succ j ih =>
      intro i x y hi hx hy
      have hj := (List.getElem?_eq_some_iff.1 hx).1
      have hz := List.getElem?_eq_getElem (show j < l.length by omega)
      have h1 := h (j + 1) x _ (by omega) hx hz
      rcases Nat.lt_or_ge i j with h2 | h2
      · have := ih i _ y h2 hz hy; omega
      · have : i = j := by omega
        subst this; rw [hz] at hy; injection hy with hy; subst hy; exact h1
  rw [List.pairwise_iff_getElem]
  intro i j hi hj hij
  exact key j i _ _ hij (List.getElem?_eq_getElem hj) (List.getElem?_eq_getElem hi)
theorem AG6 {l : List THeld} {i : Nat} {n : Int} : hPrev l i n = true ↔ ∀ g, 0 < i → l[i - 1]? = some g → g.Txn < n := by
  unfold hPrev
  cases h : l[i - 1]? with
  | none => simp
  | some g =>
    simp only [Bool.not_eq_true', Bool.and_eq_false_iff, decide_eq_false_iff_not]
    exact ⟨fun k y h0 e => by injection e with e; subst e; omega, fun k => if h0 : 0 < i then .inr (by have := k g h0 rfl; omega) else .inl h0⟩
theorem AW4 {l : List TTold} {i : Nat} {n : Int} : tPrev l i n = true ↔ ∀ g, 0 < i → l[i - 1]? = some g → g.Txn < n := by
  unfold tPrev
  cases h : l[i - 1]? with
  | none => simp
  | some g =>
    simp only [Bool.not_eq_true', Bool.and_eq_false_iff, decide_eq_false_iff_not]
    exact ⟨fun k y h0 e => by injection e with e; subst e; omega, fun k => if h0 : 0 < i then .inr (by have := k g h0 rfl; omega) else .inl h0⟩
theorem AW5 {α : Type} {p : α → α → Prop} {l : List α} : l.Pairwise p ↔ ∀ (i : Nat) (x : α), l[i]? = some x → ∀ y ∈ l.take i, p y x := by
  rw [List.pairwise_iff_getElem]
  constructor
  · intro h i x hx y hy
    obtain ⟨j, hj⟩ := List.getElem?_of_mem hy
    have hi := (List.getElem?_eq_some_iff.1 hx)
    have hjl := (List.getElem?_eq_some_iff.1 hj).1
    rw [F8] at hjl
    rw [List.getElem?_take_of_lt (by omega)] at hj
    have hj2 := (List.getElem?_eq_some_iff.1 hj)
    obtain ⟨hi1, hi2⟩ := hi
    obtain ⟨hj3, hj4⟩ := hj2
    have := h j i hj3 hi1 (by omega)
    rw [hi2, hj4] at this; exact this
  · intro h i j hi hj hij
    refine h j _ (List.getElem?_eq_getElem hj) _ (H5 (i := i) ?_)
    rw [List.getElem?_take_of_lt hij]; exact List.getElem?_eq_getElem hi
theorem r4 {s : TState} : goodState s = true ↔ GS s := by
  unfold goodState areHeld
  simp only [Bool.and_eq_true, decide_eq_true_eq, e8, List.all_eq_true]
  constructor
  · rintro ⟨⟨⟨⟨⟨h1, h2⟩, h3, h4, h5⟩, h6⟩, h7⟩, h8⟩
    have hh : ∀ (i : Nat) (h : THeld), s.Held[i]? = some h → goodRec (hRec h) = true ∧ h.Time ≤ s.Floor ∧ (∀ g, 0 < i → s.Held[i - 1]? = some g → g.Txn < h.Txn) ∧ (∀ g ∈ s.Held.take i, apart g h.Reads h.Writes = true) ∧ ∀ w ∈ h.Writes, lastTime s.Cells w.Key < h.Time := fun i h hi => by
      have := h3 i (List.getElem?_eq_some_iff.1 hi).1
      unfold heldAt at this
      rw [hi] at this
      simp only [Bool.and_eq_true, List.all_eq_true, decide_eq_true_eq, AG6, Bool.not_eq_true', decide_eq_false_iff_not] at this
      exact ⟨this.1.1.1.1, by omega, this.1.1.2, this.1.2, this.2⟩
    have ht : ∀ (i : Nat) (t : TTold), s.Told[i]? = some t → isTxnR t.Txn = true ∧ tFits s t = true ∧ (∀ g, 0 < i → s.Told[i - 1]? = some g → g.Txn < t.Txn) ∧ hasH s.Held t.Txn = false := fun i t hi => by
      have := h8 i (List.getElem?_eq_some_iff.1 hi).1
      unfold toldAt at this
      rw [hi] at this
      simp only [Bool.and_eq_true, AW4, Bool.not_eq_true'] at this
      exact ⟨this.1.1.1, this.1.1.2, this.1.2, this.2⟩
    unfold isTrue within at h1
    simp only [Bool.and_eq_true, decide_eq_true_eq] at h1
    refine ⟨h1, h2, fun h hm => ?_, AD0 fun i x y h0 hx hy => (hh i x hx).2.2.1 y h0 hy, AW5.2 fun i x hx => (hh i x hx).2.2.2.1, h4, h5, h6, h7, fun t hm => ?_, AD0 fun i x y h0 hx hy => (ht i x hx).2.2.1 y h0 hy⟩
    · obtain ⟨i, hi⟩ := List.getElem?_of_mem hm
      have := hh i h hi
      exact ⟨this.1, this.2.1, this.2.2.2.2⟩
    · obtain ⟨i, hi⟩ := List.getElem?_of_mem hm
      have := ht i t hi
      exact ⟨this.1, this.2.1, this.2.2.2⟩
  · intro g
    have hch : ∀ {α : Type} {f : α → Int} {l : List α}, (l.Pairwise fun a b => f a < f b) → ∀ (i : Nat) (x y : α), 0 < i → l[i]? = some x → l[i - 1]? = some y → f y < f x := fun {α f l} hp i x y h0 hx hy => by
      obtain ⟨hx1, hx2⟩ := List.getElem?_eq_some_iff.1 hx
      obtain ⟨hy1, hy2⟩ := List.getElem?_eq_some_iff.1 hy
      have := List.pairwise_iff_getElem.1 hp (i - 1) i hy1 hx1 (by omega)
      rw [hx2, hy2] at this; exact this
    refine ⟨⟨⟨⟨⟨?_, g.cells⟩, fun i hi => ?_, g.hlen, g.room⟩, g.tlen⟩, g.last⟩, fun i hi => ?_⟩
    · unfold isTrue within; simp [g.floor]
    · unfold heldAt
      rw [List.getElem?_eq_getElem hi]
      have hx := List.getElem?_eq_getElem hi
      obtain ⟨g1, g2, g3⟩ := g.good _ (H5 hx)
      simp only [Bool.and_eq_true, List.all_eq_true, decide_eq_true_eq, AG6, Bool.not_eq_true', decide_eq_false_iff_not]
      exact ⟨⟨⟨⟨g1, by omega⟩, fun y h0 hy => hch g.hsort i _ y h0 hx hy⟩, fun y hy => AW5.1 g.apart i _ hx y hy⟩, g3⟩
    · unfold toldAt
      rw [List.getElem?_eq_getElem hi]
      have hx := List.getElem?_eq_getElem hi
      obtain ⟨g1, g2, g3⟩ := g.told _ (H5 hx)
      simp only [Bool.and_eq_true, AW4, Bool.not_eq_true']
      exact ⟨⟨⟨g1, g2⟩, fun y h0 hy => hch g.tsort i _ y h0 hx hy⟩, g3⟩
end Go.M

namespace Go.M
open Go.AV
def findH (l : List THeld) (n : Int) : Option THeld := l.find? fun h => h.Txn == n
theorem hasH_iff {l : List THeld} {n : Int} : hasH l n = true ↔ ∃ h ∈ l, h.Txn = n := by unfold hasH; simp
theorem Aq6 {l : List THeld} {n : Int} {h : THeld} (e : findH l n = some h) : h ∈ l ∧ h.Txn = n := by
  unfold findH at e
  exact ⟨List.mem_of_find?_eq_some e, by simpa using List.find?_some e⟩
theorem Aq7 {l : List THeld} {n : Int} : findH l n = none ↔ hasH l n = false := by
  unfold findH hasH; rw [List.find?_eq_none, List.any_eq_false]
end Go.M

set_option maxRecDepth 100000
namespace Go.Proofs.YtkegepoihkhihaaGreat
open Go Go.AV Go.M
attribute [local irreducible] OpW OpA OpS AWP FSpec ESpec RetOk RvDen Le Ev GuardIs
end Go.Proofs.YtkegepoihkhihaaGreat

namespace Go.Proofs.YtkegepoihkhihaaGreat
open Go Go.AV Go.M
attribute [local irreducible] OpW OpA OpS AWP FSpec ESpec RetOk RvDen Le Ev GuardIs
theorem Aq8 {l : List TWrite} (h : sizeL TWrite.size l ≤ 4194304) : ∀ k ∈ wKeys l, k.length ≤ 4611686018427387904 := fun k hk => by
  obtain ⟨w, hw, rfl⟩ := List.mem_map.1 hk
  have := k6 (f := TWrite.size) hw
  have h2 : w.size = w.Key.length + w.Val.length := rfl
  omega
theorem n9 (l : List Str) (hs : ∀ k ∈ l, k.length ≤ 4611686018427387904) : FSpec Tryz.prog 119 [strs l] (AV.bool (areRising l)) := by
 refine D0 Tryz.func119 rfl Tryz.ntmps119 rfl ?_
 refine M6 (t := 0) rfl fun hl => ?_
 try simp only [A6] at hl
 refine A3 (A2 ?_)
 refine A1 rfl (A7 rfl E2) ?_
 refine A4 (A3 (A3 (A2 ?_)))
 refine A5 rfl ?_
 refine A1 rfl (E7 rfl D6 (A0 rfl)) ?_
 refine A1 rfl (C4 rfl B4) ?_
 refine A4 (C3 ?_)
 refine G4 [(0, _), (5, _), (6, _)] _ (fun (i : Nat) => i ≤ l.length ∧ areRising l = ((l.drop i).all goodKey && adj Op.bytesLess (l.drop (i - 1)))) (fun (i : Nat) => []) (fun (i : Nat) => [(7, AV.int i)]) (fun (i : Nat) => l.length - i) (0) ?_ (G6 ⟨rfl, rfl, rfl, rfl, trivial⟩) ?_
 ·exact ⟨Nat.zero_le _, rfl⟩
 intro i hinv
 refine A3 (A2 ?_)
 refine A1 rfl (F7 rfl (A0 rfl) (A0 rfl)) ?_
 refine A4 (A3 ?_)
 refine C0 (A0 rfl) ?_ ?_
 ·intro h8
  have k8 := of_decide_eq_true h8; try simp only [A6] at k8
  have hlt : i < l.length := by omega
  obtain ⟨x, hx⟩ := get_some hlt
  obtain ⟨y, hy⟩ := get_some (show i - 1 < l.length by omega)
  have hsx := hs x (H5 hx)
  refine C1 (A3 (C3 (A3 (A2 ?_))))
  refine A5 rfl ?_
  refine A1 rfl (I8 rfl D6 D2 (A0 rfl) (A0 rfl) hx (by first | omega | (simp only [D3, B0, szR] at *; omega))) ?_
  refine A1 rfl (K1 rfl (A0 rfl) E6 rfl) ?_
  refine B1 rfl ?_
  refine B1 rfl ?_
  refine A4 (A3 (A2 ?_))
  refine A5 rfl ?_
  refine A1 rfl (D8 rfl Tryz.call112 rfl (Ac0 _ (by omega)) (A8 (A0 rfl) C8)) ?_
  refine A1 rfl (J3 rfl (A0 rfl)) ?_
  refine A5 rfl ?_
  refine I3 rfl (fun hc => C4 rfl (A0 rfl)) ?_
  refine I3 rfl (fun hc => S4 rfl (A9 rfl hc) B4) ?_
  refine I3 rfl (fun hc => C4 rfl (A9 rfl hc)) ?_
  refine H9 rfl rfl (D9 rfl rfl rfl) (fun hc => C4 rfl (A0 rfl)) ?_
  refine H9 rfl rfl (D9 rfl rfl rfl) (fun hc => C4 rfl (A0 rfl)) ?_
  refine H9 rfl rfl (D9 rfl rfl rfl) (fun hc => C4 rfl (A0 rfl)) ?_
  refine H9 rfl rfl (D9 rfl rfl rfl) (fun hc => O8 rfl (A9 rfl hc) B4 (by first | omega | ((try simp only [D3, B0, szR] at *); omega) | (have hc2 := hc; simp only [P3, beq_iff_eq, bne_iff_ne, A6, F8] at hc2; omega))) ?_
  refine H9 rfl rfl (D9 rfl rfl rfl) (fun hc => I8 rfl D6 D2 (A9 rfl hc) (A9 rfl hc) hy (by first | omega | ((try simp only [D3, B0, szR] at *); omega) | (have hc2 := hc; simp only [P3, beq_iff_eq, bne_iff_ne, A6, F8] at hc2; omega))) ?_
  refine H9 rfl rfl (D9 rfl rfl rfl) (fun hc => K1 rfl (A9 rfl hc) E6 rfl) ?_
  refine H9 rfl rfl (D9 rfl rfl rfl) (fun hc => w_sleq rfl (A9 rfl hc) (A9 rfl hc)) ?_
  refine I3 rfl (fun hc => I1 rfl (A9 rfl hc) (O2 rfl hc)) ?_
  refine A1 rfl (P4 rfl (A0 rfl) (F6 rfl)) ?_
  refine A4 ?_
  refine C0 (A0 rfl) ?_ ?_
  ·intro h27
   have hfin : areRising l = false := by rw [hinv.2]; cases hg : goodKey x with | false => (rw [j5 hx hg]; simp) | true => (have hb : 0 < i ∧ Op.bytesLess y x = false := (by have := bytesLess_tri y x; simp_all; try grind); rw [d8 hx hy hb.1 hb.2]; simp)
   refine A3 (A2 ?_)
   refine A1 rfl (A7 rfl E2) ?_
   refine A4 ?_
   refine B8 ?_
   exact E4 rfl (B7 rfl (by first | exact congrArg AV.bool hfin.symm | exact congrArg AV.bool (by rw [hinv.2, X5 hge, U4 hge]; rfl)))
  intro h27
  have hg : goodKey x = true ∧ (0 < i → Op.bytesLess y x = true) := by have := bytesLess_tri y x; simp_all
  refine C1 (A2 ?_)
  refine A1 rfl (E9 rfl (A0 rfl) B4 (by first | omega | (simp only [D3, B0, szR] at *; omega))) ?_
  refine A5 rfl ?_
  refine A4 ?_
  refine H6 i (i + 1) ?_ ?_ (G6 ⟨rfl, rfl, rfl, rfl, trivial⟩)
  ·exact ⟨by omega, by rw [hinv.2, n5 hx hg.1, d7 hx hy hg.2]⟩
  omega
 intro h8
 have k8 := of_decide_eq_false h8; try simp only [A6] at k8
 have hge : l.length ≤ i := by omega
 refine F1 ?_
 refine A3 (A2 ?_)
 refine A1 rfl (A7 rfl E2) ?_
 refine A4 ?_
 refine B8 ?_
 exact E4 rfl (B7 rfl (by first | exact congrArg AV.bool hfin.symm | exact congrArg AV.bool (by rw [hinv.2, X5 hge, U4 hge]; rfl)))
theorem AS8 (l : List TWrite) (hs : sizeL TWrite.size l ≤ 4194304) : FSpec Tryz.prog 216 [AV.list 3 (l.map TWrite.cs)] (strs (wKeys l)) := by
 have hl : l.length ≤ 4194304 := Nat.le_trans L4 hs
 refine D0 Tryz.func216 rfl Tryz.ntmps216 rfl ?_
 refine A3 (A2 ?_)
 refine A1 rfl (A7 rfl (c0 (sz := 1))) ?_
 refine A4 (A3 (A2 ?_))
 refine T2 rfl rfl rfl rfl D6 D2 ?_
 intro v6
 refine B1 rfl ?_
 refine A4 (A3 (A3 (A2 ?_)))
 refine A5 rfl ?_
 refine A1 rfl (E7 rfl F0 (A0 rfl)) ?_
 refine A1 rfl (C4 rfl B4) ?_
 refine A4 (C3 ?_)
 refine J7 [(2, _), (7, _), (8, _)] _ (fun (i : Nat) (v : Value) => i ≤ l.length) (fun (i : Nat) (v : Value) => [.arr v 9 1 ((l.take i).map fun w => [AV.str w.Key])]) (fun (i : Nat) (v : Value) => [(3, AV.is v), (9, AV.int i)]) (fun (i : Nat) (v : Value) => l.length - i) (0) (v6) ?_ (J9 (by rfl) ⟨rfl, rfl, rfl, rfl, rfl, trivial⟩) ?_
 ·exact Nat.zero_le _
 intro i v hinv
 refine A3 (A2 ?_)
 refine A1 rfl (F7 rfl (A0 rfl) (A0 rfl)) ?_
 refine A4 (A3 ?_)
 refine C0 (A0 rfl) ?_ ?_
 ·intro h10
  have k10 := of_decide_eq_true h10; try simp only [A6] at k10
  have hlt : i < l.length := by omega
  obtain ⟨x, hx⟩ := get_some hlt
  refine C1 (A3 (C3 (A3 (A2 ?_))))
  refine A1 rfl (I8 rfl F0 G5 (A0 rfl) (A0 rfl) hx (by first | omega | (simp only [D3, B0, szR] at *; omega))) ?_
  refine A1 rfl (H0 rfl (A0 rfl) Q4 G5) ?_
  refine I2 rfl rfl rfl rfl Tryz.zeroValue101 rfl ?_
  intro b5
  refine G9 0 rfl rfl rfl (A0 rfl) (A0 rfl) (I7 _) rfl G5 rfl ?_
  refine A4 (A2 ?_)
  refine A5 rfl ?_
  refine A1 rfl (B5 0 rfl G7 rfl D2 (A0 rfl) rfl) ?_
  refine A1 rfl (B2 0 rfl (A0 rfl) rfl E6 rfl) ?_
  refine A1 rfl (W4 rfl D6 D2 Tryz.zeroValue9 rfl rfl rfl rfl (M8 (A0 rfl) (S5 _) S7) rfl rfl) ?_
  refine U6 (by' := 16) 1 rfl rfl rfl rfl D6 Tryz.type9 rfl rfl rfl rfl rfl rfl (A0 rfl) (A0 rfl) rfl (by first | omega | (simp only [D3, B0, szR] at *; omega)) ?_
  intro v17_1
  refine B1 rfl ?_
  refine A4 (A2 ?_)
  refine A1 rfl (E9 rfl (A0 rfl) B4 (by first | omega | (simp only [D3, B0, szR] at *; omega))) ?_
  refine A5 rfl ?_
  refine A4 ?_
  refine J5 i v (i + 1) (v17_1) ?_ ?_ (S8 1 (by exact congrArg (fun z => [Own.arr v17_1 9 1 z]) (AE1 (f := fun w : TWrite => [AV.str w.Key]) hx)) ⟨rfl, rfl, rfl, rfl, rfl, trivial⟩)
  ·omega
  omega
 intro h10
 have k10 := of_decide_eq_false h10; try simp only [A6] at k10
 have hge : l.length ≤ i := by omega
 rw [List.take_of_length_le hge]
 refine F1 ?_
 refine A3 (A2 ?_)
 refine A5 rfl ?_
 refine B1 rfl ?_
 refine A4 ?_
 refine B8 ?_
 refine c9 0 2 rfl rfl ?_
 exact E4 rfl (B7 rfl (by exact congrArg (AV.list 1) (by unfold wKeys; rw [List.map_map]; rfl)))
theorem AM6 (w : TWrite) (h : w.size ≤ 4194304) : FSpec Tryz.prog 217 [AV.agg w.cs] (AV.bool (!isStored w.Val w.Gone)) := by
 unfold TWrite.size at h
 refine D0 Tryz.func217 rfl Tryz.ntmps217 rfl ?_
 refine A3 (A2 ?_)
 refine I6 rfl rfl rfl rfl (A0 rfl) ?_
 intro b1
 refine A1 rfl (A7 rfl E2) ?_
 refine A4 (A3 (A2 ?_))
 refine A1 rfl (B5 1 rfl G7 rfl D2 (A0 rfl) rfl) ?_
 refine A1 rfl (B2 0 rfl (A0 rfl) rfl E6 rfl) ?_
 refine A1 rfl (B5 2 rfl G7 rfl G3 (A0 rfl) rfl) ?_
 refine A1 rfl (B2 0 rfl (A0 rfl) rfl I9 rfl) ?_
 refine A1 rfl (D8 rfl Tryz.call113 rfl (AD8 _ _ (by omega)) (A8 (A0 rfl) (A8 (A0 rfl) C8))) ?_
 refine A1 rfl (J3 rfl (A0 rfl)) ?_
 refine B1 rfl ?_
 refine A4 ?_
 refine B8 ?_
 exact E4 rfl (B7 rfl (by first | rfl | (refine congrArg AV.bool ?_; simp_all; done)))
theorem AP1 (l : List TWrite) (hs : sizeL TWrite.size l ≤ 4194304) : FSpec Tryz.prog 185 [AV.list 3 (l.map TWrite.cs)] (AV.bool (goodWrites l)) := by
 have hm : ∀ x ∈ l, x.size ≤ 4194304 := fun x hx => Nat.le_trans (k6 hx) hs
 refine D0 Tryz.func185 rfl Tryz.ntmps185 rfl ?_
 refine A3 (A2 ?_)
 refine A1 rfl (A7 rfl E2) ?_
 refine A4 (A3 (A2 ?_))
 refine A5 rfl ?_
 refine A1 rfl (E7 rfl F0 (A0 rfl)) ?_
 refine A1 rfl (S3 rfl (A0 rfl) B4) ?_
 refine A5 rfl ?_
 refine D4 rfl (fun hc => C4 rfl (A0 rfl)) ?_
 refine D4 rfl (fun hc => D8 rfl Tryz.call216 rfl (AS8 _ (by assumption)) (A8 (A9 rfl hc) C8)) ?_
 refine D4 rfl (fun hc => D8 rfl Tryz.call119 rfl (n9 _ (by first | assumption | exact Aq8 (by assumption))) (A8 (A9 rfl hc) C8)) ?_
 refine A1 rfl (I1 rfl (A0 rfl) (F6 rfl)) ?_
 refine A5 rfl ?_
 refine D4 rfl (fun hc => C4 rfl (A0 rfl)) ?_
 refine D4 rfl (fun hc => D8 rfl Tryz.call141 rfl (Y4 _ _ _ (by first | (intros; trivial) | assumption | (intros; first | trivial | (simp_all; done)))) (A8 (A9 rfl hc) (A8 (Am6 Tryz.call217 (fun w h => AM6 w h)) C8))) ?_
 refine D4 rfl (fun hc => J3 rfl (A9 rfl hc)) ?_
 refine A1 rfl (I1 rfl (A0 rfl) (F6 rfl)) ?_
 refine B1 rfl ?_
 refine A4 ?_
 refine B8 ?_
 exact E4 rfl (B7 rfl (by exact congrArg AV.bool (by unfold goodWrites; simp only [A6])))
theorem AY5 (l : List TWrite) (hs : sizeL TWrite.size l ≤ 1048576) : FSpec Tryz.prog 163 [AV.list 3 (l.map TWrite.cs)] (AV.bool (l3Writes l)) := by
 refine D0 Tryz.func163 rfl Tryz.ntmps163 rfl ?_
 refine M6 (t := 0) rfl fun hl => ?_
 try simp only [A6] at hl
 refine A3 (A2 ?_)
 refine A1 rfl (A7 rfl E2) ?_
 refine A4 (A3 (A3 (A2 ?_)))
 refine A5 rfl ?_
 refine A1 rfl (E7 rfl F0 (A0 rfl)) ?_
 refine A1 rfl (C4 rfl B4) ?_
 refine A4 (C3 ?_)
 refine G4 [(0, _), (5, _), (6, _)] _ (fun (i : Nat) => i ≤ l.length ∧ (l.all wGood && adj wLess l) = ((l.drop i).all wGood && adj wLess (l.drop (i - 1)))) (fun (i : Nat) => []) (fun (i : Nat) => [(7, AV.int i)]) (fun (i : Nat) => l.length - i) (0) ?_ (G6 ⟨rfl, rfl, rfl, rfl, trivial⟩) ?_
 ·exact ⟨Nat.zero_le _, rfl⟩
 intro i hinv
 refine A3 (A2 ?_)
 refine A1 rfl (F7 rfl (A0 rfl) (A0 rfl)) ?_
 refine A4 (A3 ?_)
 refine C0 (A0 rfl) ?_ ?_
 ·intro h8
  have k8 := of_decide_eq_true h8; try simp only [A6] at k8
  have hlt : i < l.length := by omega
  obtain ⟨x, hx⟩ := get_some hlt
  obtain ⟨y, hy⟩ := get_some (show i - 1 < l.length by omega)
  have hsx : x.size ≤ 1048576 := Nat.le_trans (Q1 hx) hs
  unfold TWrite.size at hsx
  refine C1 (A3 (C3 (A3 (A2 ?_))))
  refine A5 rfl ?_
  refine A1 rfl (I8 rfl F0 G5 (A0 rfl) (A0 rfl) hx (by first | omega | (simp only [D3, B0, szR] at *; omega))) ?_
  refine A1 rfl (H0 rfl (A0 rfl) Q4 G5) ?_
  refine I2 rfl rfl rfl rfl Tryz.zeroValue101 rfl ?_
  intro b4
  refine B1 rfl ?_
  refine G9 0 rfl rfl rfl (A0 rfl) (A0 rfl) (I7 _) rfl G5 rfl ?_
  refine A4 (A3 ?_)
  refine H7 (by kernel_rfl) (by kernel_rfl) rfl ?_
  refine B3 rfl rfl (B5 0 rfl G7 rfl D2 (A0 rfl) rfl) ?_
  refine B3 rfl rfl (B2 0 rfl (A0 rfl) rfl E6 rfl) ?_
  refine B3 rfl rfl (B5 1 rfl G7 rfl D2 (A0 rfl) rfl) ?_
  refine B3 rfl rfl (B2 0 rfl (A0 rfl) rfl E6 rfl) ?_
  refine B3 rfl rfl (B5 2 rfl G7 rfl G3 (A0 rfl) rfl) ?_
  refine B3 rfl rfl (B2 0 rfl (A0 rfl) rfl I9 rfl) ?_
  refine B3 rfl rfl (D8 rfl Tryz.call165 rfl (u3 _ _ _ (by omega) (by omega)) (A8 (A0 rfl) (A8 (A0 rfl) (A8 (A0 rfl) C8)))) ?_
  refine B3 rfl rfl (J3 rfl (A0 rfl)) ?_
  refine B3 rfl rfl (C4 rfl (A0 rfl)) ?_
  refine D7 rfl (G8 rfl rfl rfl) (fun hc => C4 rfl (A0 rfl)) ?_
  refine D7 rfl (G8 rfl rfl rfl) (fun hc => S4 rfl (A9 rfl hc) B4) ?_
  refine D7 rfl (G8 rfl rfl rfl) (fun hc => C4 rfl (A9 rfl hc)) ?_
  refine D7 rfl (D9 rfl rfl rfl) (fun hc => C4 rfl (A0 rfl)) ?_
  refine D7 rfl (D9 rfl rfl rfl) (fun hc => C4 rfl (A0 rfl)) ?_
  refine D7 rfl (D9 rfl rfl rfl) (fun hc => O8 rfl (A9 rfl hc) B4 (by first | omega | ((try simp only [D3, B0, szR] at *); omega) | (have hc2 := hc; simp only [P3, beq_iff_eq, bne_iff_ne, A6, F8] at hc2; omega))) ?_
  refine D7 rfl (D9 rfl rfl rfl) (fun hc => I8 rfl F0 G5 (A9 rfl hc) (A9 rfl hc) hy (by first | omega | ((try simp only [D3, B0, szR] at *); omega) | (have hc2 := hc; simp only [P3, beq_iff_eq, bne_iff_ne, A6, F8] at hc2; omega))) ?_
  refine D7 rfl (D9 rfl rfl rfl) (fun hc => Q8 rfl G7 rfl D2 (A9 rfl hc) rfl) ?_
  refine D7 rfl (D9 rfl rfl rfl) (fun hc => K1 rfl (A9 rfl hc) E6 rfl) ?_
  refine D7 rfl (D9 rfl rfl rfl) (fun hc => B5 0 rfl G7 rfl D2 (A0 rfl) rfl) ?_
  refine D7 rfl (D9 rfl rfl rfl) (fun hc => B2 0 rfl (A9 rfl hc) rfl E6 rfl) ?_
  refine D7 rfl (D9 rfl rfl rfl) (fun hc => Ab1 rfl (A9 rfl hc) (A9 rfl hc)) ?_
  refine D7 rfl (G8 rfl rfl rfl) (fun hc => I1 rfl (A9 rfl hc) (O2 rfl hc)) ?_
  refine B3 rfl rfl (P4 rfl (A0 rfl) (F6 rfl)) ?_
  refine O4 ?_
  refine C0 (A0 rfl) ?_ ?_
  ·intro h34
   have hfin : l3Writes l = false := by unfold l3Writes; rw [hinv.2]; cases hg : wGood x with | false => (rw [j5 hx hg]; simp) | true => (have hb : 0 < i ∧ wLess y x = false := (by unfold wGood at hg; unfold wLess; simp_all; try grind); rw [d8 hx hy hb.1 hb.2]; simp)
   refine A3 (A2 ?_)
   refine A1 rfl (A7 rfl E2) ?_
   refine A4 ?_
   refine B8 ?_
   exact E4 rfl (B7 rfl (by first | exact congrArg AV.bool hfin.symm | exact congrArg AV.bool (by unfold l3Writes; rw [hinv.2, X5 hge, U4 hge, A6]; simp)))
  intro h34
  have hg : wGood x = true ∧ (0 < i → wLess y x = true) := by unfold wGood wLess; simp_all
  refine C1 (A2 ?_)
  refine A1 rfl (E9 rfl (A0 rfl) B4 (by first | omega | (simp only [D3, B0, szR] at *; omega))) ?_
  refine A5 rfl ?_
  refine A4 ?_
  refine H6 i (i + 1) ?_ ?_ (T3 1 ⟨rfl, rfl, rfl, rfl, trivial⟩)
  ·exact ⟨by omega, by rw [hinv.2, n5 hx hg.1, d7 hx hy hg.2]⟩
  omega
 intro h8
 have k8 := of_decide_eq_false h8; try simp only [A6] at k8
 have hge : l.length ≤ i := by omega
 refine F1 ?_
 refine A3 (A2 ?_)
 refine A5 rfl ?_
 refine A1 rfl (E7 rfl F0 (A0 rfl)) ?_
 refine A1 rfl (S3 rfl (A0 rfl) B4) ?_
 refine B1 rfl ?_
 refine A4 ?_
 refine B8 ?_
 exact E4 rfl (B7 rfl (by first | exact congrArg AV.bool hfin.symm | exact congrArg AV.bool (by unfold l3Writes; rw [hinv.2, X5 hge, U4 hge, A6]; simp)))
end Go.Proofs.YtkegepoihkhihaaGreat

namespace Go.Proofs.YtkegepoihkhihaaGreat
open Go Go.AV Go.M
attribute [local irreducible] OpW OpA OpS AWP FSpec ESpec RetOk RvDen Le Ev GuardIs
theorem AP2 (w : TWrite) (k : Str) : FSpec Tryz.prog 230 [AV.agg w.cs, AV.str k] (AV.int (wCmp k w)) := by
 refine D0 Tryz.func230 rfl Tryz.ntmps230 rfl ?_
 refine A3 (A2 ?_)
 refine I6 rfl rfl rfl rfl (A0 rfl) ?_
 intro b2
 refine A1 rfl (A7 rfl B4) ?_
 refine A4 (A3 (A2 ?_))
 refine A1 rfl (B5 0 rfl G7 rfl D2 (A0 rfl) rfl) ?_
 refine A1 rfl (B2 0 rfl (A0 rfl) rfl E6 rfl) ?_
 refine A5 rfl ?_
 refine A1 rfl (D8 rfl Tryz.call105 rfl (AA0 _ _) (A8 (A0 rfl) (A8 (A0 rfl) C8))) ?_
 refine B1 rfl ?_
 refine A4 ?_
 refine B8 ?_
 exact E4 rfl (B7 rfl (by first | rfl | (refine congrArg AV.bool ?_; simp_all; done)))
theorem AS9 (l : List TWrite) (k : Str) (hs : l.length ≤ 4611686018427387903) : FSpec Tryz.prog 219 [AV.list 3 (l.map TWrite.cs), AV.str k] (AV.tup [AV.int (wPos l k), AV.bool (wHas l k)]) := by
 refine D0 Tryz.func219 rfl Tryz.ntmps219 rfl ?_
 refine A3 (A2 ?_)
 refine A1 rfl (A7 rfl B4) ?_
 refine A1 rfl (A7 rfl E2) ?_
 refine A4 (A3 (A2 ?_))
 refine A5 rfl ?_
 refine A5 rfl ?_
 refine A1 rfl (D8 rfl Tryz.call229 rfl (z7 _ _ _ (by first | (intros; trivial) | assumption | (intros; first | trivial | (simp_all; done))) _ (by omega)) (A8 (A0 rfl) (A8 (A0 rfl) (A8 (AR3 Tryz.call230 (fun w k (_ : True) => AP2 w k)) C8)))) ?_
 refine A1 rfl (K3 rfl (A0 rfl) rfl) ?_
 refine A1 rfl (K3 rfl (A0 rfl) rfl) ?_
 refine B1 rfl ?_
 refine B1 rfl ?_
 refine A4 ?_
 refine B8 ?_
 exact g9 rfl (by decide) (J2 (B7 rfl (by first | rfl | (refine congrArg AV.bool ?_; simp_all; done))) (J2 (B7 rfl (by first | rfl | (refine congrArg AV.bool ?_; simp_all; done))) R6))
end Go.Proofs.YtkegepoihkhihaaGreat

namespace Go.Proofs.YtkegepoihkhihaaGreat
open Go Go.AV Go.M
attribute [local irreducible] OpW OpA OpS AWP FSpec ESpec RetOk RvDen Le Ev GuardIs
theorem u6 {c : TCell} {n : Nat} (h : c.size ≤ n) : c.Key.length ≤ n ∧ c.Vers.length ≤ n ∧ sizeL TVer.size c.Vers ≤ n := by
  unfold TCell.size at h
  have : c.Vers.length ≤ n := Nat.le_trans L4 (show sizeL TVer.size c.Vers ≤ n by omega)
  omega
theorem AJ7 (t : Int) : FSpec Tryz.prog 52 [AV.int t] (AV.bool (isTrue t)) := by
 refine D0 Tryz.func52 rfl Tryz.ntmps52 rfl ?_
 refine A3 (A2 ?_)
 refine A1 rfl (A7 rfl E2) ?_
 refine A4 (A3 (A2 ?_))
 refine A5 rfl ?_
 refine A1 rfl (D8 rfl Tryz.call82 rfl (W9 _ _ _) (A8 (A0 rfl) (A8 B4 (A8 B4 C8)))) ?_
 refine B1 rfl ?_
 refine A4 ?_
 refine B8 ?_
 exact E4 rfl (B7 rfl (by first | rfl | (refine congrArg AV.bool ?_; simp_all; done)))
theorem Aj0 (t : Int) : FSpec Tryz.prog 161 [AV.int t] (AV.bool (within t 1 100000)) := by
 refine D0 Tryz.func161 rfl Tryz.ntmps161 rfl ?_
 refine A3 (A2 ?_)
 refine A1 rfl (A7 rfl E2) ?_
 refine A4 (A3 (A2 ?_))
 refine A5 rfl ?_
 refine A1 rfl (D8 rfl Tryz.call39 rfl (R9 _ _ _) (A8 (A0 rfl) (A8 B4 (A8 B4 C8)))) ?_
 refine B1 rfl ?_
 refine A4 ?_
 refine B8 ?_
 exact E4 rfl (B7 rfl (by first | rfl | (refine congrArg AV.bool ?_; simp_all; done)))
theorem Aj1 (t : Int) : FSpec Tryz.prog 124 [AV.int t] (AV.bool (isTrue t)) := by
 refine D0 Tryz.func124 rfl Tryz.ntmps124 rfl ?_
 refine A3 (A2 ?_)
 refine A1 rfl (A7 rfl E2) ?_
 refine A4 (A3 (A2 ?_))
 refine A5 rfl ?_
 refine A1 rfl (D8 rfl Tryz.call39 rfl (R9 _ _ _) (A8 (A0 rfl) (A8 B4 (A8 B4 C8)))) ?_
 refine B1 rfl ?_
 refine A4 ?_
 refine B8 ?_
 exact E4 rfl (B7 rfl (by first | rfl | (refine congrArg AV.bool ?_; simp_all; done)))
theorem Aj2 (c : TCell) (hs : c.size ≤ 4194304) : FSpec Tryz.prog 118 [AV.agg c.cs] (AV.bool (isCell c)) := by
 have hcl := u6 hs
 refine D0 Tryz.func118 rfl Tryz.ntmps118 rfl ?_
 refine A3 (A2 ?_)
 refine I6 rfl rfl rfl rfl (A0 rfl) ?_
 intro b1
 refine A1 rfl (A7 rfl E2) ?_
 refine A4 (A3 (A3 (A2 ?_)))
 refine A1 rfl (B5 1 rfl F9 rfl L2 (A0 rfl) rfl) ?_
 refine A1 rfl (B2 0 rfl (A0 rfl) rfl O1 rfl) ?_
 refine A1 rfl (E7 rfl H4 (A0 rfl)) ?_
 refine A1 rfl (C4 rfl B4) ?_
 refine A4 (C3 ?_)
 refine G4 [(1, _), (6, _), (7, _)] _ (fun (i : Nat) => i ≤ c.Vers.length ∧ (c.Vers.all verGood && adj verLess c.Vers) = ((c.Vers.drop i).all verGood && adj verLess (c.Vers.drop (i - 1)))) (fun (i : Nat) => []) (fun (i : Nat) => [(8, AV.int i)]) (fun (i : Nat) => c.Vers.length - i) (0) ?_ (G6 ⟨rfl, rfl, rfl, rfl, trivial⟩) ?_
 ·exact ⟨Nat.zero_le _, rfl⟩
 intro i hinv
 refine A3 (A2 ?_)
 refine A1 rfl (F7 rfl (A0 rfl) (A0 rfl)) ?_
 refine A4 (A3 ?_)
 refine C0 (A0 rfl) ?_ ?_
 ·intro h9
  have k9 := of_decide_eq_true h9; try simp only [A6] at k9
  have hlt : i < c.Vers.length := by omega
  obtain ⟨x, hx⟩ := get_some hlt
  obtain ⟨y, hy⟩ := get_some (show i - 1 < c.Vers.length by omega)
  have hsx : x.size ≤ 4194304 := Nat.le_trans (Q1 hx) hcl.2.2
  unfold TVer.size at hsx
  refine C1 (A3 (C3 (A3 (A2 ?_))))
  refine A5 rfl ?_
  refine A1 rfl (I8 rfl H4 J1 (A0 rfl) (A0 rfl) hx (by first | omega | (simp only [D3, B0, szR] at *; omega))) ?_
  refine A1 rfl (H0 rfl (A0 rfl) W0 J1) ?_
  refine I2 rfl rfl rfl rfl Tryz.zeroValue127 rfl ?_
  intro b4
  refine B1 rfl ?_
  refine G9 0 rfl rfl rfl (A0 rfl) (A0 rfl) (I7 _) rfl J1 rfl ?_
  refine A4 (A3 ?_)
  refine H7 (by kernel_rfl) (by kernel_rfl) rfl ?_
  refine B3 rfl rfl (B5 0 rfl G2 rfl B9 (A0 rfl) rfl) ?_
  refine B3 rfl rfl (B2 0 rfl (A0 rfl) rfl D1 rfl) ?_
  refine B3 rfl rfl (D8 rfl Tryz.call111 rfl (c6 _) (A8 (A0 rfl) C8)) ?_
  refine B3 rfl rfl (J3 rfl (A0 rfl)) ?_
  refine B3 rfl rfl (C4 rfl (A0 rfl)) ?_
  refine D7 rfl (G8 rfl rfl rfl) (fun hc => B5 1 rfl G2 rfl D2 (A0 rfl) rfl) ?_
  refine D7 rfl (G8 rfl rfl rfl) (fun hc => B2 0 rfl (A9 rfl hc) rfl E6 rfl) ?_
  refine D7 rfl (G8 rfl rfl rfl) (fun hc => B5 2 rfl G2 rfl G3 (A0 rfl) rfl) ?_
  refine D7 rfl (G8 rfl rfl rfl) (fun hc => B2 0 rfl (A9 rfl hc) rfl I9 rfl) ?_
  refine D7 rfl (G8 rfl rfl rfl) (fun hc => D8 rfl Tryz.call113 rfl (AD8 _ _ (by omega)) (A8 (A9 rfl hc) (A8 (A9 rfl hc) C8))) ?_
  refine D7 rfl (G8 rfl rfl rfl) (fun hc => J3 rfl (A9 rfl hc)) ?_
  refine B3 rfl rfl (P4 rfl (A0 rfl) (F6 rfl)) ?_
  refine B3 rfl rfl (C4 rfl (A0 rfl)) ?_
  refine D7 rfl (G8 rfl rfl rfl) (fun hc => C4 rfl (A0 rfl)) ?_
  refine D7 rfl (G8 rfl rfl rfl) (fun hc => S4 rfl (A9 rfl hc) B4) ?_
  refine D7 rfl (G8 rfl rfl rfl) (fun hc => C4 rfl (A9 rfl hc)) ?_
  refine D7 rfl (D9 rfl rfl rfl) (fun hc => B5 0 rfl G2 rfl B9 (A0 rfl) rfl) ?_
  refine D7 rfl (D9 rfl rfl rfl) (fun hc => B2 0 rfl (A9 rfl hc) rfl D1 rfl) ?_
  refine D7 rfl (D9 rfl rfl rfl) (fun hc => B5 1 rfl F9 rfl L2 (A0 rfl) rfl) ?_
  refine D7 rfl (D9 rfl rfl rfl) (fun hc => B2 1 rfl (A9 rfl hc) rfl O1 rfl) ?_
  refine D7 rfl (D9 rfl rfl rfl) (fun hc => C4 rfl (A0 rfl)) ?_
  refine D7 rfl (D9 rfl rfl rfl) (fun hc => O8 rfl (A9 rfl hc) B4 (by first | omega | ((try simp only [D3, B0, szR] at *); omega) | (have hc2 := hc; simp only [P3, beq_iff_eq, bne_iff_ne, A6, F8] at hc2; omega))) ?_
  refine D7 rfl (D9 rfl rfl rfl) (fun hc => I8 rfl H4 J1 (A9 rfl hc) (A9 rfl hc) hy (by first | omega | ((try simp only [D3, B0, szR] at *); omega) | (have hc2 := hc; simp only [P3, beq_iff_eq, bne_iff_ne, A6, F8] at hc2; omega))) ?_
  refine D7 rfl (D9 rfl rfl rfl) (fun hc => Q8 rfl G2 rfl B9 (A9 rfl hc) rfl) ?_
  refine D7 rfl (D9 rfl rfl rfl) (fun hc => K1 rfl (A9 rfl hc) D1 rfl) ?_
  refine D7 rfl (D9 rfl rfl rfl) (fun hc => S3 rfl (A9 rfl hc) (A9 rfl hc)) ?_
  refine D7 rfl (G8 rfl rfl rfl) (fun hc => I1 rfl (A9 rfl hc) (O2 rfl hc)) ?_
  refine B3 rfl rfl (P4 rfl (A0 rfl) (F6 rfl)) ?_
  refine O4 ?_
  refine C0 (A0 rfl) ?_ ?_
  ·intro h40
   have hfin : isCell c = false := by unfold isCell; rw [hinv.2]; cases hg : verGood x with | false => (rw [j5 hx hg]; simp) | true => (have hb : 0 < i ∧ verLess y x = false := (by unfold verGood at hg; unfold verLess; simp_all; try grind); rw [d8 hx hy hb.1 hb.2]; simp)
   refine A3 (A2 ?_)
   refine A1 rfl (A7 rfl E2) ?_
   refine A4 ?_
   refine B8 ?_
   exact E4 rfl (B7 rfl (by first | exact congrArg AV.bool hfin.symm | exact congrArg AV.bool (by unfold isCell; rw [hinv.2, X5 hge, U4 hge]; simp)))
  intro h40
  have hg : verGood x = true ∧ (0 < i → verLess y x = true) := by unfold verGood verLess; simp_all
  refine C1 (A2 ?_)
  refine A1 rfl (E9 rfl (A0 rfl) B4 (by first | omega | (simp only [D3, B0, szR] at *; omega))) ?_
  refine A5 rfl ?_
  refine A4 ?_
  refine H6 i (i + 1) ?_ ?_ (T3 1 ⟨rfl, rfl, rfl, rfl, trivial⟩)
  ·exact ⟨by omega, by rw [hinv.2, n5 hx hg.1, d7 hx hy hg.2]⟩
  omega
 intro h9
 have k9 := of_decide_eq_false h9; try simp only [A6] at k9
 have hge : c.Vers.length ≤ i := by omega
 refine F1 ?_
 refine A3 (A2 ?_)
 refine A1 rfl (B5 1 rfl F9 rfl L2 (A0 rfl) rfl) ?_
 refine A1 rfl (B2 0 rfl (A0 rfl) rfl O1 rfl) ?_
 refine A1 rfl (E7 rfl H4 (A0 rfl)) ?_
 refine A1 rfl (D8 rfl Tryz.call82 rfl (W9 _ _ _) (A8 (A0 rfl) (A8 B4 (A8 B4 C8)))) ?_
 refine B1 rfl ?_
 refine A4 ?_
 refine B8 ?_
 exact E4 rfl (B7 rfl (by first | exact congrArg AV.bool hfin.symm | exact congrArg AV.bool (by unfold isCell; rw [hinv.2, X5 hge, U4 hge]; simp)))
theorem Aj3 (c : TCell) (hs : c.size ≤ 4194304) : FSpec Tryz.prog 176 [AV.agg c.cs] (AV.bool (l3Cell c)) := by
 have hcl := u6 hs
 refine D0 Tryz.func176 rfl Tryz.ntmps176 rfl ?_
 refine A3 (A2 ?_)
 refine I6 rfl rfl rfl rfl (A0 rfl) ?_
 intro b1
 refine A1 rfl (A7 rfl E2) ?_
 refine A4 (A3 (A3 (A2 ?_)))
 refine A1 rfl (B5 1 rfl F9 rfl L2 (A0 rfl) rfl) ?_
 refine A1 rfl (B2 0 rfl (A0 rfl) rfl O1 rfl) ?_
 refine A1 rfl (E7 rfl H4 (A0 rfl)) ?_
 refine A1 rfl (C4 rfl B4) ?_
 refine A4 (C3 ?_)
 refine G4 [(1, _), (6, _), (7, _)] _ (fun (i : Nat) => i ≤ c.Vers.length ∧ (c.Vers.all (verGoodS c.Key) && adj verLess c.Vers) = ((c.Vers.drop i).all (verGoodS c.Key) && adj verLess (c.Vers.drop (i - 1)))) (fun (i : Nat) => []) (fun (i : Nat) => [(8, AV.int i)]) (fun (i : Nat) => c.Vers.length - i) (0) ?_ (G6 ⟨rfl, rfl, rfl, rfl, trivial⟩) ?_
 ·exact ⟨Nat.zero_le _, rfl⟩
 intro i hinv
 refine A3 (A2 ?_)
 refine A1 rfl (F7 rfl (A0 rfl) (A0 rfl)) ?_
 refine A4 (A3 ?_)
 refine C0 (A0 rfl) ?_ ?_
 ·intro h9
  have k9 := of_decide_eq_true h9; try simp only [A6] at k9
  have hlt : i < c.Vers.length := by omega
  obtain ⟨x, hx⟩ := get_some hlt
  obtain ⟨y, hy⟩ := get_some (show i - 1 < c.Vers.length by omega)
  have hsx : x.size ≤ 4194304 := Nat.le_trans (Q1 hx) hcl.2.2
  unfold TVer.size at hsx
  refine C1 (A3 (C3 (A3 (A2 ?_))))
  refine A5 rfl ?_
  refine A1 rfl (I8 rfl H4 J1 (A0 rfl) (A0 rfl) hx (by first | omega | (simp only [D3, B0, szR] at *; omega))) ?_
  refine A1 rfl (H0 rfl (A0 rfl) W0 J1) ?_
  refine I2 rfl rfl rfl rfl Tryz.zeroValue127 rfl ?_
  intro b4
  refine B1 rfl ?_
  refine G9 0 rfl rfl rfl (A0 rfl) (A0 rfl) (I7 _) rfl J1 rfl ?_
  refine A4 (A3 ?_)
  refine H7 (by kernel_rfl) (by kernel_rfl) rfl ?_
  refine B3 rfl rfl (B5 0 rfl G2 rfl B9 (A0 rfl) rfl) ?_
  refine B3 rfl rfl (B2 0 rfl (A0 rfl) rfl D1 rfl) ?_
  refine B3 rfl rfl (D8 rfl Tryz.call161 rfl (Aj0 _) (A8 (A0 rfl) C8)) ?_
  refine B3 rfl rfl (J3 rfl (A0 rfl)) ?_
  refine B3 rfl rfl (C4 rfl (A0 rfl)) ?_
  refine D7 rfl (G8 rfl rfl rfl) (fun hc => B5 0 rfl F9 rfl D2 (A0 rfl) rfl) ?_
  refine D7 rfl (G8 rfl rfl rfl) (fun hc => B2 1 rfl (A9 rfl hc) rfl E6 rfl) ?_
  refine D7 rfl (G8 rfl rfl rfl) (fun hc => B5 1 rfl G2 rfl D2 (A0 rfl) rfl) ?_
  refine D7 rfl (G8 rfl rfl rfl) (fun hc => B2 0 rfl (A9 rfl hc) rfl E6 rfl) ?_
  refine D7 rfl (G8 rfl rfl rfl) (fun hc => B5 2 rfl G2 rfl G3 (A0 rfl) rfl) ?_
  refine D7 rfl (G8 rfl rfl rfl) (fun hc => B2 0 rfl (A9 rfl hc) rfl I9 rfl) ?_
  refine D7 rfl (G8 rfl rfl rfl) (fun hc => D8 rfl Tryz.call165 rfl (u3 _ _ _ (by omega) (by omega)) (A8 (A9 rfl hc) (A8 (A9 rfl hc) (A8 (A9 rfl hc) C8)))) ?_
  refine D7 rfl (G8 rfl rfl rfl) (fun hc => J3 rfl (A9 rfl hc)) ?_
  refine B3 rfl rfl (P4 rfl (A0 rfl) (F6 rfl)) ?_
  refine B3 rfl rfl (C4 rfl (A0 rfl)) ?_
  refine D7 rfl (G8 rfl rfl rfl) (fun hc => C4 rfl (A0 rfl)) ?_
  refine D7 rfl (G8 rfl rfl rfl) (fun hc => S4 rfl (A9 rfl hc) B4) ?_
  refine D7 rfl (G8 rfl rfl rfl) (fun hc => C4 rfl (A9 rfl hc)) ?_
  refine D7 rfl (D9 rfl rfl rfl) (fun hc => B5 1 rfl F9 rfl L2 (A0 rfl) rfl) ?_
  refine D7 rfl (D9 rfl rfl rfl) (fun hc => B2 1 rfl (A9 rfl hc) rfl O1 rfl) ?_
  refine D7 rfl (D9 rfl rfl rfl) (fun hc => C4 rfl (A0 rfl)) ?_
  refine D7 rfl (D9 rfl rfl rfl) (fun hc => O8 rfl (A9 rfl hc) B4 (by first | omega | ((try simp only [D3, B0, szR] at *); omega) | (have hc2 := hc; simp only [P3, beq_iff_eq, bne_iff_ne, A6, F8] at hc2; omega))) ?_
  refine D7 rfl (D9 rfl rfl rfl) (fun hc => I8 rfl H4 J1 (A9 rfl hc) (A9 rfl hc) hy (by first | omega | ((try simp only [D3, B0, szR] at *); omega) | (have hc2 := hc; simp only [P3, beq_iff_eq, bne_iff_ne, A6, F8] at hc2; omega))) ?_
  refine D7 rfl (D9 rfl rfl rfl) (fun hc => Q8 rfl G2 rfl B9 (A9 rfl hc) rfl) ?_
  refine D7 rfl (D9 rfl rfl rfl) (fun hc => K1 rfl (A9 rfl hc) D1 rfl) ?_
  refine D7 rfl (D9 rfl rfl rfl) (fun hc => B5 0 rfl G2 rfl B9 (A0 rfl) rfl) ?_
  refine D7 rfl (D9 rfl rfl rfl) (fun hc => B2 0 rfl (A9 rfl hc) rfl D1 rfl) ?_
  refine D7 rfl (D9 rfl rfl rfl) (fun hc => X3 rfl (A9 rfl hc) (A9 rfl hc)) ?_
  refine D7 rfl (G8 rfl rfl rfl) (fun hc => I1 rfl (A9 rfl hc) (O2 rfl hc)) ?_
  refine B3 rfl rfl (P4 rfl (A0 rfl) (F6 rfl)) ?_
  refine O4 ?_
  refine C0 (A0 rfl) ?_ ?_
  ·intro h42
   have hfin : l3Cell c = false := by unfold l3Cell; rw [hinv.2]; cases hg : verGoodS c.Key x with | false => (rw [j5 hx hg]; simp) | true => (have hb : 0 < i ∧ verLess y x = false := (by unfold verGoodS at hg; unfold verLess; simp_all; try grind); rw [d8 hx hy hb.1 hb.2]; simp)
   refine A3 (A2 ?_)
   refine A1 rfl (A7 rfl E2) ?_
   refine A4 ?_
   refine B8 ?_
   exact E4 rfl (B7 rfl (by first | exact congrArg AV.bool hfin.symm | exact congrArg AV.bool (by unfold l3Cell; rw [hinv.2, X5 hge, U4 hge]; simp)))
  intro h42
  have hg : verGoodS c.Key x = true ∧ (0 < i → verLess y x = true) := by unfold verGoodS verLess; simp_all
  refine C1 (A2 ?_)
  refine A1 rfl (E9 rfl (A0 rfl) B4 (by first | omega | (simp only [D3, B0, szR] at *; omega))) ?_
  refine A5 rfl ?_
  refine A4 ?_
  refine H6 i (i + 1) ?_ ?_ (T3 1 ⟨rfl, rfl, rfl, rfl, trivial⟩)
  ·exact ⟨by omega, by rw [hinv.2, n5 hx hg.1, d7 hx hy hg.2]⟩
  omega
 intro h9
 have k9 := of_decide_eq_false h9; try simp only [A6] at k9
 have hge : c.Vers.length ≤ i := by omega
 refine F1 ?_
 refine A3 (A2 ?_)
 refine A1 rfl (B5 0 rfl F9 rfl D2 (A0 rfl) rfl) ?_
 refine A1 rfl (B2 0 rfl (A0 rfl) rfl E6 rfl) ?_
 refine A1 rfl (D8 rfl Tryz.call198 rfl (AC2 _ (by omega)) (A8 (A0 rfl) C8)) ?_
 refine A5 rfl ?_
 refine D4 rfl (fun hc => B5 1 rfl F9 rfl L2 (A0 rfl) rfl) ?_
 refine D4 rfl (fun hc => B2 0 rfl (A9 rfl hc) rfl O1 rfl) ?_
 refine D4 rfl (fun hc => E7 rfl H4 (A9 rfl hc)) ?_
 refine D4 rfl (fun hc => D8 rfl Tryz.call39 rfl (R9 _ _ _) (A8 (A9 rfl hc) (A8 B4 (A8 B4 C8)))) ?_
 refine A1 rfl (I1 rfl (A0 rfl) (F6 rfl)) ?_
 refine B1 rfl ?_
 refine A4 ?_
 refine B8 ?_
 exact E4 rfl (B7 rfl (by first | exact congrArg AV.bool hfin.symm | exact congrArg AV.bool (by unfold l3Cell; rw [hinv.2, X5 hge, U4 hge]; simp)))
theorem AT0 (l : List TCell) (hs : sizeL TCell.size l ≤ 4194304) : FSpec Tryz.prog 77 [AV.list 2 (l.map TCell.cs)] (AV.bool (goodCells l)) := by
 have hl : l.length ≤ 4194304 := Nat.le_trans L4 hs
 have hks : ∀ k ∈ cKeys l, k.length ≤ 4611686018427387904 := fun k hk => by
  obtain ⟨w, hw, rfl⟩ := List.mem_map.1 hk
  have := u6 (Nat.le_trans (k6 hw) hs)
  omega
 refine D0 Tryz.func77 rfl Tryz.ntmps77 rfl ?_
 refine A3 (A2 ?_)
 refine A1 rfl (A7 rfl E2) ?_
 refine A4 (A3 (A2 ?_))
 refine T2 rfl rfl rfl rfl D6 D2 ?_
 intro v6
 refine B1 rfl ?_
 refine A4 (A3 (A3 (A2 ?_)))
 refine A5 rfl ?_
 refine A1 rfl (E7 rfl F3 (A0 rfl)) ?_
 refine A1 rfl (C4 rfl B4) ?_
 refine A4 (C3 ?_)
 refine J7 [(0, _), (7, _), (8, _)] _ (fun (i : Nat) (v : Value) => i ≤ l.length ∧ l.all isCell = (l.drop i).all isCell) (fun (i : Nat) (v : Value) => [.arr v 9 1 ((l.take i).map fun w => [AV.str w.Key])]) (fun (i : Nat) (v : Value) => [(3, AV.is v), (9, AV.int i)]) (fun (i : Nat) (v : Value) => l.length - i) (0) (v6) ?_ (J9 (by rfl) ⟨rfl, rfl, rfl, rfl, rfl, trivial⟩) ?_
 ·exact ⟨Nat.zero_le _, rfl⟩
 intro i v hinv
 refine A3 (A2 ?_)
 refine A1 rfl (F7 rfl (A0 rfl) (A0 rfl)) ?_
 refine A4 (A3 ?_)
 refine C0 (A0 rfl) ?_ ?_
 ·intro h10
  have k10 := of_decide_eq_true h10; try simp only [A6] at k10
  have hlt : i < l.length := by omega
  obtain ⟨x, hx⟩ := get_some hlt
  have hsx : x.size ≤ 4194304 := Nat.le_trans (Q1 hx) hs
  refine C1 (A3 (C3 (A3 (A2 ?_))))
  refine A1 rfl (I8 rfl F3 F2 (A0 rfl) (A0 rfl) hx (by first | omega | (simp only [D3, B0, szR] at *; omega))) ?_
  refine A1 rfl (H0 rfl (A0 rfl) O0 F2) ?_
  refine I2 rfl rfl rfl rfl Tryz.zeroValue125 rfl ?_
  intro b5
  refine G9 0 rfl rfl rfl (A0 rfl) (A0 rfl) (I7 _) rfl F2 rfl ?_
  refine A4 (A3 (A3 (A2 ?_)))
  refine A1 rfl (L5 0 rfl (A0 rfl) rfl O0 F2 rfl) ?_
  refine A1 rfl (D8 rfl Tryz.call118 rfl (Aj2 _ (by first | assumption | omega)) (A8 (A0 rfl) C8)) ?_
  refine A1 rfl (J3 rfl (A0 rfl)) ?_
  refine A4 ?_
  refine C0 (A0 rfl) ?_ ?_
  ·intro h15
   refine A3 (A2 ?_)
   refine A1 rfl (A7 rfl E2) ?_
   refine A4 ?_
   refine B8 ?_
   exact E4 rfl (B7 rfl (by first | exact congrArg AV.bool (by unfold goodCells; rw [hinv.2, j5 hx (by simpa using h15)]; rfl) | exact congrArg AV.bool (by unfold goodCells; rw [hinv.2, X5 hge, A6]; simp)))
  intro h15
  refine C1 (A2 ?_)
  refine A5 rfl ?_
  refine A1 rfl (B5 0 rfl F9 rfl D2 (A0 rfl) rfl) ?_
  refine A1 rfl (B2 0 rfl (A0 rfl) rfl E6 rfl) ?_
  refine A1 rfl (W4 rfl D6 D2 Tryz.zeroValue9 rfl rfl rfl rfl (M8 (A0 rfl) (S5 _) S7) rfl rfl) ?_
  refine U6 (by' := 16) 1 rfl rfl rfl rfl D6 Tryz.type9 rfl rfl rfl rfl rfl rfl (A0 rfl) (A0 rfl) rfl (by first | omega | (simp only [D3, B0, szR] at *; omega)) ?_
  intro v20_1
  refine B1 rfl ?_
  refine A4 (A2 ?_)
  refine A1 rfl (E9 rfl (A0 rfl) B4 (by first | omega | (simp only [D3, B0, szR] at *; omega))) ?_
  refine A5 rfl ?_
  refine A4 ?_
  refine J5 i v (i + 1) (v20_1) ?_ ?_ (S8 1 (by exact congrArg (fun z => [Own.arr v20_1 9 1 z]) (AE1 (f := fun w : TCell => [AV.str w.Key]) hx)) ⟨rfl, rfl, rfl, rfl, rfl, trivial⟩)
  ·exact ⟨by omega, by rw [hinv.2, n5 hx (by simpa using h15)]⟩
  omega
 intro h10
 have k10 := of_decide_eq_false h10; try simp only [A6] at k10
 have hge : l.length ≤ i := by omega
 rw [List.take_of_length_le hge, show (l.map fun w => [AV.str w.Key]) = (cKeys l).map (fun k => [AV.str k]) from by unfold cKeys; rw [List.map_map]; rfl]
 refine F1 ?_
 refine A3 (A2 ?_)
 refine A5 rfl ?_
 refine A1 rfl (E7 rfl F3 (A0 rfl)) ?_
 refine A1 rfl (S3 rfl (A0 rfl) B4) ?_
 refine A5 rfl ?_
 refine D4 rfl (fun hc => C4 rfl (A0 rfl)) ?_
 refine D4 rfl (fun hc => Z1 rfl Tryz.call119 rfl (n9 (cKeys l) hks) (C2 _) (M5 (j8 0 (A9 rfl hc) rfl) T4)) ?_
 refine A1 rfl (I1 rfl (A0 rfl) (F6 rfl)) ?_
 refine B1 rfl ?_
 refine A4 ?_
 refine B8 ?_
 exact E4 rfl (B7 rfl (by first | exact congrArg AV.bool (by unfold goodCells; rw [hinv.2, j5 hx (by simpa using h15)]; rfl) | exact congrArg AV.bool (by unfold goodCells; rw [hinv.2, X5 hge, A6]; simp)))
theorem Aj4 (l : List TCell) (hs : sizeL TCell.size l ≤ 4194304) : FSpec Tryz.prog 125 [AV.list 2 (l.map TCell.cs)] (AV.bool (l3Good l)) := by
 refine D0 Tryz.func125 rfl Tryz.ntmps125 rfl ?_
 refine M6 (t := 0) rfl fun hl => ?_
 try simp only [A6] at hl
 refine A3 (A2 ?_)
 refine A1 rfl (A7 rfl E2) ?_
 refine A4 (A3 (A3 (A2 ?_)))
 refine A5 rfl ?_
 refine A1 rfl (E7 rfl F3 (A0 rfl)) ?_
 refine A1 rfl (C4 rfl B4) ?_
 refine A4 (C3 ?_)
 refine G4 [(0, _), (5, _), (6, _)] _ (fun (i : Nat) => i ≤ l.length ∧ (l.all l3Cell && adj cLess l) = ((l.drop i).all l3Cell && adj cLess (l.drop (i - 1)))) (fun (i : Nat) => []) (fun (i : Nat) => [(7, AV.int i)]) (fun (i : Nat) => l.length - i) (0) ?_ (G6 ⟨rfl, rfl, rfl, rfl, trivial⟩) ?_
 ·exact ⟨Nat.zero_le _, rfl⟩
 intro i hinv
 refine A3 (A2 ?_)
 refine A1 rfl (F7 rfl (A0 rfl) (A0 rfl)) ?_
 refine A4 (A3 ?_)
 refine C0 (A0 rfl) ?_ ?_
 ·intro h8
  have k8 := of_decide_eq_true h8; try simp only [A6] at k8
  have hlt : i < l.length := by omega
  obtain ⟨x, hx⟩ := get_some hlt
  obtain ⟨y, hy⟩ := get_some (show i - 1 < l.length by omega)
  have hsx : x.size ≤ 4194304 := Nat.le_trans (Q1 hx) hs
  refine C1 (A3 (C3 (A3 (A2 ?_))))
  refine A5 rfl ?_
  refine A1 rfl (I8 rfl F3 F2 (A0 rfl) (A0 rfl) hx (by first | omega | (simp only [D3, B0, szR] at *; omega))) ?_
  refine A1 rfl (H0 rfl (A0 rfl) O0 F2) ?_
  refine I2 rfl rfl rfl rfl Tryz.zeroValue125 rfl ?_
  intro b4
  refine B1 rfl ?_
  refine G9 0 rfl rfl rfl (A0 rfl) (A0 rfl) (I7 _) rfl F2 rfl ?_
  refine A4 (A3 ?_)
  refine H7 (by kernel_rfl) (by kernel_rfl) rfl ?_
  refine B3 rfl rfl (L5 0 rfl (A0 rfl) rfl O0 F2 rfl) ?_
  refine B3 rfl rfl (D8 rfl Tryz.call176 rfl (Aj3 _ (by first | assumption | omega)) (A8 (A0 rfl) C8)) ?_
  refine B3 rfl rfl (J3 rfl (A0 rfl)) ?_
  refine B3 rfl rfl (C4 rfl (A0 rfl)) ?_
  refine D7 rfl (G8 rfl rfl rfl) (fun hc => C4 rfl (A0 rfl)) ?_
  refine D7 rfl (G8 rfl rfl rfl) (fun hc => S4 rfl (A9 rfl hc) B4) ?_
  refine D7 rfl (G8 rfl rfl rfl) (fun hc => C4 rfl (A9 rfl hc)) ?_
  refine D7 rfl (D9 rfl rfl rfl) (fun hc => C4 rfl (A0 rfl)) ?_
  refine D7 rfl (D9 rfl rfl rfl) (fun hc => C4 rfl (A0 rfl)) ?_
  refine D7 rfl (D9 rfl rfl rfl) (fun hc => O8 rfl (A9 rfl hc) B4 (by first | omega | ((try simp only [D3, B0, szR] at *); omega) | (have hc2 := hc; simp only [P3, beq_iff_eq, bne_iff_ne, A6, F8] at hc2; omega))) ?_
  refine D7 rfl (D9 rfl rfl rfl) (fun hc => I8 rfl F3 F2 (A9 rfl hc) (A9 rfl hc) hy (by first | omega | ((try simp only [D3, B0, szR] at *); omega) | (have hc2 := hc; simp only [P3, beq_iff_eq, bne_iff_ne, A6, F8] at hc2; omega))) ?_
  refine D7 rfl (D9 rfl rfl rfl) (fun hc => Q8 rfl F9 rfl D2 (A9 rfl hc) rfl) ?_
  refine D7 rfl (D9 rfl rfl rfl) (fun hc => K1 rfl (A9 rfl hc) E6 rfl) ?_
  refine D7 rfl (D9 rfl rfl rfl) (fun hc => B5 0 rfl F9 rfl D2 (A0 rfl) rfl) ?_
  refine D7 rfl (D9 rfl rfl rfl) (fun hc => B2 0 rfl (A9 rfl hc) rfl E6 rfl) ?_
  refine D7 rfl (D9 rfl rfl rfl) (fun hc => Ab1 rfl (A9 rfl hc) (A9 rfl hc)) ?_
  refine D7 rfl (G8 rfl rfl rfl) (fun hc => I1 rfl (A9 rfl hc) (O2 rfl hc)) ?_
  refine B3 rfl rfl (P4 rfl (A0 rfl) (F6 rfl)) ?_
  refine O4 ?_
  refine C0 (A0 rfl) ?_ ?_
  ·intro h29
   have hfin : l3Good l = false := by unfold l3Good; rw [hinv.2]; cases hg : l3Cell x with | false => (rw [j5 hx hg]; simp) | true => (have hb : 0 < i ∧ cLess y x = false := (by unfold cLess; simp_all; try grind); rw [d8 hx hy hb.1 hb.2]; simp)
   refine A3 (A2 ?_)
   refine A1 rfl (A7 rfl E2) ?_
   refine A4 ?_
   refine B8 ?_
   exact E4 rfl (B7 rfl (by first | exact congrArg AV.bool hfin.symm | exact congrArg AV.bool (by unfold l3Good; rw [hinv.2, X5 hge, U4 hge, A6]; simp)))
  intro h29
  have hg : l3Cell x = true ∧ (0 < i → cLess y x = true) := by unfold cLess; simp_all
  refine C1 (A2 ?_)
  refine A1 rfl (E9 rfl (A0 rfl) B4 (by first | omega | (simp only [D3, B0, szR] at *; omega))) ?_
  refine A5 rfl ?_
  refine A4 ?_
  refine H6 i (i + 1) ?_ ?_ (T3 1 ⟨rfl, rfl, rfl, rfl, trivial⟩)
  ·exact ⟨by omega, by rw [hinv.2, n5 hx hg.1, d7 hx hy hg.2]⟩
  omega
 intro h8
 have k8 := of_decide_eq_false h8; try simp only [A6] at k8
 have hge : l.length ≤ i := by omega
 refine F1 ?_
 refine A3 (A2 ?_)
 refine A5 rfl ?_
 refine A1 rfl (E7 rfl F3 (A0 rfl)) ?_
 refine A1 rfl (S3 rfl (A0 rfl) B4) ?_
 refine B1 rfl ?_
 refine A4 ?_
 refine B8 ?_
 exact E4 rfl (B7 rfl (by first | exact congrArg AV.bool hfin.symm | exact congrArg AV.bool (by unfold l3Good; rw [hinv.2, X5 hge, U4 hge, A6]; simp)))
theorem AT1 (c : TCell) (k : Str) : FSpec Tryz.prog 173 [AV.agg c.cs, AV.str k] (AV.int (cCmp k c)) := by
 refine D0 Tryz.func173 rfl Tryz.ntmps173 rfl ?_
 refine A3 (A2 ?_)
 refine I6 rfl rfl rfl rfl (A0 rfl) ?_
 intro b2
 refine A1 rfl (A7 rfl B4) ?_
 refine A4 (A3 (A2 ?_))
 refine A1 rfl (B5 0 rfl F9 rfl D2 (A0 rfl) rfl) ?_
 refine A1 rfl (B2 0 rfl (A0 rfl) rfl E6 rfl) ?_
 refine A5 rfl ?_
 refine A1 rfl (D8 rfl Tryz.call105 rfl (AA0 _ _) (A8 (A0 rfl) (A8 (A0 rfl) C8))) ?_
 refine B1 rfl ?_
 refine A4 ?_
 refine B8 ?_
 exact E4 rfl (B7 rfl (by first | rfl | (refine congrArg AV.bool ?_; simp_all; done)))
theorem AE4 (l : List TCell) (k : Str) (hs : l.length ≤ 4611686018427387903) : FSpec Tryz.prog 122 [AV.list 2 (l.map TCell.cs), AV.str k] (AV.tup [AV.int (cPos l k), AV.bool (cHas l k)]) := by
 refine D0 Tryz.func122 rfl Tryz.ntmps122 rfl ?_
 refine A3 (A2 ?_)
 refine A1 rfl (A7 rfl B4) ?_
 refine A1 rfl (A7 rfl E2) ?_
 refine A4 (A3 (A2 ?_))
 refine A5 rfl ?_
 refine A5 rfl ?_
 refine A1 rfl (D8 rfl Tryz.call172 rfl (AA9 _ _ _ (by first | (intros; trivial) | assumption | (intros; first | trivial | (simp_all; done))) _ (by omega)) (A8 (A0 rfl) (A8 (A0 rfl) (A8 (AR3 Tryz.call173 (fun c k (_ : True) => AT1 c k)) C8)))) ?_
 refine A1 rfl (K3 rfl (A0 rfl) rfl) ?_
 refine A1 rfl (K3 rfl (A0 rfl) rfl) ?_
 refine B1 rfl ?_
 refine B1 rfl ?_
 refine A4 ?_
 refine B8 ?_
 exact g9 rfl (by decide) (J2 (B7 rfl (by first | rfl | (refine congrArg AV.bool ?_; simp_all; done))) (J2 (B7 rfl (by first | rfl | (refine congrArg AV.bool ?_; simp_all; done))) R6))
theorem AW6 {c : TCell} (h : 1 ≤ c.Vers.length) : ∃ v, c.Vers[c.Vers.length - 1]? = some v ∧ lastV c = v.Time := by
  obtain ⟨v, hv⟩ := get_some (show c.Vers.length - 1 < c.Vers.length by omega)
  refine ⟨v, hv, ?_⟩
  unfold lastV; rw [List.getLast?_eq_getElem?, hv]
theorem AE5 (l : List TCell) (k : Str) (ho : CellsOk l) (hs : sizeL TCell.size l ≤ 4194304) : FSpec Tryz.prog 92 [AV.list 2 (l.map TCell.cs), AV.str k] (AV.int (lastTime l k)) := by
 have hl : l.length ≤ 4194304 := Nat.le_trans L4 hs
 refine D0 Tryz.func92 rfl Tryz.ntmps92 rfl ?_
 refine A3 (A2 ?_)
 refine A1 rfl (A7 rfl B4) ?_
 refine A4 (A3 (A2 ?_))
 refine A5 rfl ?_
 refine A5 rfl ?_
 refine A1 rfl (D8 rfl Tryz.call122 rfl (AE4 _ _ (by first | assumption | omega)) (A8 (A0 rfl) (A8 (A0 rfl) C8))) ?_
 refine A5 rfl ?_
 refine A1 rfl (K3 rfl (A0 rfl) rfl) ?_
 refine A1 rfl (K3 rfl (A0 rfl) rfl) ?_
 refine B1 rfl ?_
 refine B1 rfl ?_
 refine A4 (A3 (A3 (A2 ?_)))
 refine A5 rfl ?_
 refine A1 rfl (J3 rfl (A0 rfl)) ?_
 refine A4 ?_
 refine C0 (A0 rfl) ?_ ?_
 ·intro h14
  have hn : cHas l k = false := by simpa using h14
  have he : lastTime l k = 0 := by unfold lastTime; rw [AM4 ho.1, hn]; rfl
  rw [he]
  refine A3 (A2 ?_)
  refine A1 rfl (A7 rfl B4) ?_
  refine A4 ?_
  refine B8 ?_
  exact E4 rfl (B7 rfl (by first | rfl | (refine congrArg AV.bool ?_; simp_all; done)))
 intro h14
 have hn : cHas l k = true := by simpa using h14
 obtain ⟨c, hc, hck⟩ := AC8.1 hn
 obtain ⟨v, hv, hlv⟩ := AW6 (ho.2 c (H5 hc))
 have hcl := u6 (Nat.le_trans (Q1 hc) hs)
 have hc1 := ho.2 c (H5 hc)
 have he : lastTime l k = v.Time := by unfold lastTime; rw [AM4 ho.1, hn, if_pos rfl, hc]; exact hlv
 rw [he]
 refine C1 (A3 ?_)
 refine H7 (by kernel_rfl) (by kernel_rfl) rfl ?_
 refine B3 rfl rfl (C4 rfl (A0 rfl)) ?_
 refine B3 rfl rfl (C4 rfl (A0 rfl)) ?_
 refine B3 rfl rfl (I8 rfl F3 F2 (A0 rfl) (A0 rfl) hc (by first | omega | (simp only [D3, B0, szR] at *; omega))) ?_
 refine B3 rfl rfl (Q8 rfl F9 rfl L2 (A0 rfl) rfl) ?_
 refine B3 rfl rfl (K1 rfl (A0 rfl) O1 rfl) ?_
 refine B3 rfl rfl (C4 rfl (A0 rfl)) ?_
 refine B3 rfl rfl (C4 rfl (A0 rfl)) ?_
 refine B3 rfl rfl (I8 rfl F3 F2 (A0 rfl) (A0 rfl) hc (by first | omega | (simp only [D3, B0, szR] at *; omega))) ?_
 refine B3 rfl rfl (Q8 rfl F9 rfl L2 (A0 rfl) rfl) ?_
 refine B3 rfl rfl (K1 rfl (A0 rfl) O1 rfl) ?_
 refine B3 rfl rfl (E7 rfl H4 (A0 rfl)) ?_
 refine B3 rfl rfl (O8 rfl (A0 rfl) B4 (by first | omega | (simp only [D3, B0, szR] at *; omega))) ?_
 refine B3 rfl rfl (I8 rfl H4 J1 (A0 rfl) (A0 rfl) hv (by first | omega | (simp only [D3, B0, szR] at *; omega))) ?_
 refine B3 rfl rfl (Q8 rfl G2 rfl B9 (A0 rfl) rfl) ?_
 refine B3 rfl rfl (K1 rfl (A0 rfl) D1 rfl) ?_
 refine B3 rfl rfl (A7 rfl (A0 rfl)) ?_
 refine O4 ?_
 refine B8 ?_
 exact E4 rfl (B7 rfl (by first | rfl | (refine congrArg AV.bool ?_; simp_all; done)))
theorem AW7 (l : List TCell) (k : Str) : FSpec Tryz.prog 180 [AV.list 2 (l.map TCell.cs), AV.str k] (AV.int (atC l k)) := by
 refine D0 Tryz.func180 rfl Tryz.ntmps180 rfl ?_
 refine M6 (t := 0) rfl fun hl => ?_
 try simp only [A6] at hl
 refine A3 (A2 ?_)
 refine A1 rfl (A7 rfl B4) ?_
 refine A4 (A3 (A3 (A2 ?_)))
 refine A5 rfl ?_
 refine A1 rfl (E7 rfl F3 (A0 rfl)) ?_
 refine A1 rfl (C4 rfl B4) ?_
 refine A4 (C3 ?_)
 refine G4 [(1, _), (7, _), (8, _)] _ (fun (i : Nat) => i ≤ l.length ∧ ∀ j x, j < i → l[j]? = some x → x.Key ≠ k) (fun (i : Nat) => []) (fun (i : Nat) => [(9, AV.int i)]) (fun (i : Nat) => l.length - i) (0) ?_ (G6 ⟨rfl, rfl, rfl, rfl, trivial⟩) ?_
 ·exact ⟨Nat.zero_le _, fun j x h => by omega⟩
 intro i hinv
 refine A3 (A2 ?_)
 refine A1 rfl (F7 rfl (A0 rfl) (A0 rfl)) ?_
 refine A4 (A3 ?_)
 refine C0 (A0 rfl) ?_ ?_
 ·intro h10
  have k10 := of_decide_eq_true h10; try simp only [A6] at k10
  have hlt : i < l.length := by omega
  obtain ⟨x, hx⟩ := get_some hlt
  refine C1 (A3 (C3 (A3 (A2 ?_))))
  refine A5 rfl ?_
  refine A1 rfl (I8 rfl F3 F2 (A0 rfl) (A0 rfl) hx (by first | omega | (simp only [D3, B0, szR] at *; omega))) ?_
  refine A1 rfl (H0 rfl (A0 rfl) O0 F2) ?_
  refine I2 rfl rfl rfl rfl Tryz.zeroValue125 rfl ?_
  intro b6
  refine B1 rfl ?_
  refine G9 0 rfl rfl rfl (A0 rfl) (A0 rfl) (I7 _) rfl F2 rfl ?_
  refine A4 (A3 (A2 ?_))
  refine A1 rfl (B5 0 rfl F9 rfl D2 (A0 rfl) rfl) ?_
  refine A1 rfl (B2 0 rfl (A0 rfl) rfl E6 rfl) ?_
  refine A5 rfl ?_
  refine A1 rfl (t1 rfl (A0 rfl) (A0 rfl)) ?_
  refine A4 ?_
  refine C0 (A0 rfl) ?_ ?_
  ·intro h17
   refine A3 (A2 ?_)
   refine A5 rfl ?_
   refine B1 rfl ?_
   refine A4 ?_
   refine B8 ?_
   exact E4 rfl (B7 rfl (by first | exact congrArg AV.int (Ad6 hx (by simpa using h17) hinv.2).symm | exact congrArg AV.int (Ad7 fun j x hx => hinv.2 j x (Nat.lt_of_lt_of_le (List.getElem?_eq_some_iff.1 hx).1 hge) hx).symm))
  intro h17
  refine C1 (A2 ?_)
  refine A1 rfl (E9 rfl (A0 rfl) B4 (by first | omega | (simp only [D3, B0, szR] at *; omega))) ?_
  refine A5 rfl ?_
  refine A4 ?_
  refine H6 i (i + 1) ?_ ?_ (T3 1 ⟨rfl, rfl, rfl, rfl, trivial⟩)
  ·exact ⟨by omega, fun j y hj hy => if hji : j < i then hinv.2 j y hji hy else (by have e : j = i := (by omega); subst e; rw [hx] at hy; injection hy with hy; subst hy; simpa using h17)⟩
  omega
 intro h10
 have k10 := of_decide_eq_false h10; try simp only [A6] at k10
 have hge : l.length ≤ i := by omega
 refine F1 ?_
 refine A3 (A2 ?_)
 refine A1 rfl (A7 rfl B4) ?_
 refine A4 ?_
 refine B8 ?_
 exact E4 rfl (B7 rfl (by first | exact congrArg AV.int (Ad6 hx (by simpa using h17) hinv.2).symm | exact congrArg AV.int (Ad7 fun j x hx => hinv.2 j x (Nat.lt_of_lt_of_le (List.getElem?_eq_some_iff.1 hx).1 hge) hx).symm))
theorem AJ8 (l : List TCell) (k : Str) (ho : CellsOk l) (hs : sizeL TCell.size l ≤ 4194304) : FSpec Tryz.prog 127 [AV.list 2 (l.map TCell.cs), AV.str k] (AV.int (lastTime l k)) := by
 have hl : l.length ≤ 4194304 := Nat.le_trans L4 hs
 refine D0 Tryz.func127 rfl Tryz.ntmps127 rfl ?_
 refine A3 (A2 ?_)
 refine A1 rfl (A7 rfl B4) ?_
 refine A4 (A3 (A2 ?_))
 refine A5 rfl ?_
 refine A5 rfl ?_
 refine A1 rfl (D8 rfl Tryz.call180 rfl (AW7 _ _) (A8 (A0 rfl) (A8 (A0 rfl) C8))) ?_
 refine B1 rfl ?_
 refine A4 (A3 (A3 (A2 ?_)))
 refine A5 rfl ?_
 refine A1 rfl (F7 rfl (A0 rfl) B4) ?_
 refine A4 ?_
 refine C0 (A0 rfl) ?_ ?_
 ·intro h10
  have k10 := of_decide_eq_true h10; try simp only [A6] at k10
  have hn : findC l k = none := An9 k10
  have he : lastTime l k = 0 := by unfold lastTime; rw [hn]
  rw [he]
  refine A3 (A2 ?_)
  refine A1 rfl (A7 rfl B4) ?_
  refine A4 ?_
  refine B8 ?_
  exact E4 rfl (B7 rfl (by first | rfl | (refine congrArg AV.bool ?_; simp_all; done)))
 intro h10
 have k10 := of_decide_eq_false h10; try simp only [A6] at k10
 obtain ⟨p, c, hp, hc, hf⟩ := Ao0 k10
 rw [hp]
 obtain ⟨v, hv, hlv⟩ := AW6 (ho.2 c (H5 hc))
 have hcl := u6 (Nat.le_trans (Q1 hc) hs)
 have hc1 := ho.2 c (H5 hc)
 have he : lastTime l k = v.Time := by unfold lastTime; rw [hf]; exact hlv
 rw [he]
 refine C1 (A3 ?_)
 refine H7 (by kernel_rfl) (by kernel_rfl) rfl ?_
 refine B3 rfl rfl (C4 rfl (A0 rfl)) ?_
 refine B3 rfl rfl (C4 rfl (A0 rfl)) ?_
 refine B3 rfl rfl (I8 rfl F3 F2 (A0 rfl) (A0 rfl) hc (by first | omega | (simp only [D3, B0, szR] at *; omega))) ?_
 refine B3 rfl rfl (Q8 rfl F9 rfl L2 (A0 rfl) rfl) ?_
 refine B3 rfl rfl (K1 rfl (A0 rfl) O1 rfl) ?_
 refine B3 rfl rfl (C4 rfl (A0 rfl)) ?_
 refine B3 rfl rfl (C4 rfl (A0 rfl)) ?_
 refine B3 rfl rfl (I8 rfl F3 F2 (A0 rfl) (A0 rfl) hc (by first | omega | (simp only [D3, B0, szR] at *; omega))) ?_
 refine B3 rfl rfl (Q8 rfl F9 rfl L2 (A0 rfl) rfl) ?_
 refine B3 rfl rfl (K1 rfl (A0 rfl) O1 rfl) ?_
 refine B3 rfl rfl (E7 rfl H4 (A0 rfl)) ?_
 refine B3 rfl rfl (O8 rfl (A0 rfl) B4 (by first | omega | (simp only [D3, B0, szR] at *; omega))) ?_
 refine B3 rfl rfl (I8 rfl H4 J1 (A0 rfl) (A0 rfl) hv (by first | omega | (simp only [D3, B0, szR] at *; omega))) ?_
 refine B3 rfl rfl (Q8 rfl G2 rfl B9 (A0 rfl) rfl) ?_
 refine B3 rfl rfl (K1 rfl (A0 rfl) D1 rfl) ?_
 refine B3 rfl rfl (A7 rfl (A0 rfl)) ?_
 refine O4 ?_
 refine B8 ?_
 exact E4 rfl (B7 rfl (by first | rfl | (refine congrArg AV.bool ?_; simp_all; done)))
end Go.Proofs.YtkegepoihkhihaaGreat

namespace Go.AV
section
variable {P : Program} {G : Nat → Prop} {n : Nat} {own : List Own} {o : Oper}
def OwnC (sel : List Own) : Own → Own → Prop
  | .box b t cs, .box b' t' cs' => b = b' ∧ t = t' ∧ LendC sel cs cs'
  | .arr v t sz es, .arr v' t' sz' es' => v = v' ∧ t = t' ∧ sz = sz' ∧ LendE sel es es'
  | .frz b t cs, .frz b' t' cs' => b = b' ∧ t = t' ∧ LendC sel cs cs'
  | .tab T, .tab T' => T = T'
  | _, _ => False
def OwnsC (sel own own' : List Own) : Prop := own.length = own'.length ∧ ∀ (i : Nat) (q q' : Own), own[i]? = some q → own'[i]? = some q' → OwnC sel q q'
theorem oc_blk {sel : List Own} {q q' : Own} (h : OwnC sel q q') : Own.blk q = Own.blk q' := by
  cases q <;> cases q' <;> unfold OwnC at h
  · exact congrArg some h.1
  · exact h.elim
  · exact h.elim
  · exact h.elim
  · exact h.elim
  · exact congrArg Value.ownBlock h.1
  · exact h.elim
  · exact h.elim
  · exact h.elim
  · exact h.elim
  · exact congrArg some h.1
  · exact h.elim
  · exact h.elim
  · exact h.elim
  · exact h.elim
  · rfl
theorem oc_map {sel a b : List Own} (h : OwnsC sel a b) : a.map Own.blk = b.map Own.blk := by
  refine List.ext_getElem? fun i => ?_
  rw [List.getElem?_map, List.getElem?_map]
  cases ha : a[i]? with
  | none =>
    have : b[i]? = none := by rw [List.getElem?_eq_none_iff] at ha ⊢; rw [← h.1]; exact ha
    rw [this]
  | some q =>
    have hi : i < b.length := by rw [← h.1]; exact (List.getElem?_eq_some_iff.1 ha).1
    rw [List.getElem?_eq_getElem hi]
    exact congrArg some (oc_blk (h.2 i q _ ha (List.getElem?_eq_getElem hi)))
theorem oc_fm {sel a b : List Own} (h : OwnsC sel a b) : a.filterMap Own.blk = b.filterMap Own.blk := by
  have := congrArg (List.filterMap id) (oc_map h)
  rwa [List.filterMap_map, List.filterMap_map] at this
theorem AG7 {sel : List Own} {xs ys : List AV} {w0 : World} {R0 R : RHeap} {w : World} {vs : List Value} (hc : Core G w0 R0 sel R w) (h : DenC R vs xs) (k : LendC sel xs ys) : DenC (lend sel w R) vs ys :=
  ⟨h.1.trans k.1, fun i v y hv hy => by
    have hi : i < xs.length := by rw [k.1]; exact (List.getElem?_eq_some_iff.1 hy).1
    have hx := List.getElem?_eq_getElem hi
    obtain ⟨h1, h2⟩ := h.2 i v _ hv hx
    exact ⟨k.2 i _ y hx hy G w0 R0 R w v hc h1, h2⟩⟩
theorem Aq9 {sel rest rest' : List Own} {w0 : World} {R0 R : RHeap} {w : World} (h : Core G w0 R0 (sel ++ rest) R w) (hG : ∀ b, G b → b ∈ rest.filterMap Own.blk) (hl : OwnsC sel rest rest') : Core G w0 R0 rest' (lend sel w R) w := by
  have hb := AO2 h hG
  have hs := T9 h
  refine ⟨hb.os, hb.tape, hb.output, hb.size, hb.block, hb.rle, hb.rold, fun q' hq' => ?_, fun q' hq' b hqb => ?_, ?_⟩
  · obtain ⟨i, hi⟩ := List.getElem?_of_mem hq'
    have hir : i < rest.length := by rw [hl.1]; exact (List.getElem?_eq_some_iff.1 hi).1
    have hr := List.getElem?_eq_getElem hir
    have hm := H5 hr
    have hoc := hl.2 i _ q' hr hi
    have k1 := hb.owned _ hm
    have k2 := h.owned _ (List.mem_append_right _ hm)
    revert hoc k1 k2
    generalize rest[i] = q
    intro hoc k1 k2
    cases q <;> cases q' <;> unfold OwnC at hoc
    · obtain ⟨rfl, rfl, hc⟩ := hoc
      obtain ⟨_, vs, hv, hd⟩ := k2
      exact ⟨k1.1, vs, hv, AG7 hs hd hc⟩
    · exact hoc.elim
    · exact hoc.elim
    · exact hoc.elim
    · exact hoc.elim
    · obtain ⟨rfl, rfl, rfl, hc⟩ := hoc
      obtain ⟨_, hlen, xs, hx, hd⟩ := k2
      refine ⟨k1.1, fun e he => ?_, xs, ?_, AG7 hs hd (AR4 hc)⟩
      · obtain ⟨j, hj⟩ := List.getElem?_of_mem he
        have hje := List.getElem?_eq_getElem (show j < _ from hc.1.symm ▸ (List.getElem?_eq_some_iff.1 hj).1)
        rw [← (hc.2 j _ e hje hj).1]
        exact hlen _ (H5 hje)
      · rw [← hc.1]; exact hx
    · exact hoc.elim
    · exact hoc.elim
    · exact hoc.elim
    · exact hoc.elim
    · obtain ⟨rfl, rfl, hc⟩ := hoc
      obtain ⟨_, vs, hv, hd⟩ := k2
      exact ⟨k1.1, vs, hv, AG7 hs hd hc⟩
    · exact hoc.elim
    · exact hoc.elim
    · exact hoc.elim
    · exact hoc.elim
    · exact hoc ▸ k1
  · have hm : (some b) ∈ rest'.map Own.blk := List.mem_map.2 ⟨q', hq', hqb⟩
    rw [← oc_map hl] at hm
    obtain ⟨q, hq, hqb2⟩ := List.mem_map.1 hm
    exact hb.fresh q hq b hqb2
  · rw [← oc_fm hl]; exact hb.sep
theorem oc_refl {sel : List Own} (q : Own) : OwnC sel q q := by
  cases q with
  | box b t cs => exact ⟨rfl, rfl, AI3⟩
  | arr v t sz es => exact ⟨rfl, rfl, rfl, W8⟩
  | frz b t cs => exact ⟨rfl, rfl, AI3⟩
  | tab T => exact rfl
theorem oc_set {sel l : List Own} {i : Nat} {q q' : Own} (hi : l[i]? = some q) (hc : OwnC sel q q') : OwnsC sel l (l.set i q') := ⟨by simp, fun j x y hx hy => by
  by_cases h : i = j
  · subst h
    rw [List.getElem?_set_self (List.getElem?_eq_some_iff.1 hi).1] at hy
    rw [hi] at hx
    injection hx with hx; injection hy with hy; subst hx; subst hy; exact hc
  · rw [List.getElem?_set_ne h, hx] at hy
    injection hy with hy; subst hy; exact oc_refl _⟩
theorem le_sealO {env : List (Nat × AV)} {sel rest : List Own} {q : Own} (is : List Nat) (i : Nat) (q' : Own) (hp : pick own is = (sel, rest)) (hi : rest[i]? = some q) (hc : OwnC sel q q') (hG : ∀ b, G b → b ∈ rest.filterMap Own.blk) : Le G n ⟨own, env⟩ ⟨rest.set i q', env⟩ := fun w0 R0 R a w ⟨h1, h2, h3⟩ => by
  have hk := d4 h1 hp
  exact ⟨lend sel w R, Z5 (T9 hk), Aq9 hk hG (oc_set hi hc), fun t z hz => z.mono (Z5 (T9 hk)) (h2 t z hz), h3⟩
section
variable {T X : Type} {ocs : T → X → List AV} {cs : T → List AV} {ow : T → X → List Own}
end
end
end Go.AV

namespace Go.AV
section
variable {P : Program} {G : Nat → Prop} {n : Nat} {own : List Own} {o : Oper} {E : EnvF}
@[reducible] def byteC (b : UInt8) : List AV := [AV.ik .u8 b.toNat]
end
end Go.AV
