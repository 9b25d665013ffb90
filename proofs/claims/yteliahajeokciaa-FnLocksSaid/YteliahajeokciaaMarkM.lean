/- Marks: what the laws write into rows, to see whether two rows share memory. -/
import Derived.Test.YteliahajeokciaaTypesM
set_option linter.unusedVariables false
namespace Go.M
open Go.AV
def digs (k : Nat) (out : Str) : Str := if h : 0 < k then digs (k / 10) (UInt8.ofNat (48 + k % 10) :: out) else out
termination_by k
decreasing_by omega
theorem digs_pos {k : Nat} {out : Str} (h : 0 < k) : digs k out = digs (k / 10) (UInt8.ofNat (48 + k % 10) :: out) := by rw [digs, dif_pos h]
theorem digs_zero {k : Nat} {out : Str} (h : ¬ 0 < k) : digs k out = out := by rw [digs, dif_neg h]
def markText (k : Int) : Str := if k ≤ 0 then [109, 48] else 109 :: digs k.toNat []
theorem tmod10 {k : Nat} : (k : Int).tmod 10 = ((k % 10 : Nat) : Int) := by rw [Int.tmod_eq_emod_of_nonneg (by omega)]; omega
theorem mk_byte {k : Nat} : IntKind.u8.wrap (48 + ((k : Int).tmod 10)) = ((UInt8.ofNat (48 + k % 10)).toNat : Int) := by
  have h1 : (k : Int).tmod 10 = ((k % 10 : Nat) : Int) := by rw [Int.tmod_eq_emod_of_nonneg (by omega)]; omega
  rw [h1]
  have h2 : (UInt8.ofNat (48 + k % 10)).toNat = 48 + k % 10 := by simp; omega
  rw [h2]
  simp only [IntKind.wrap, IntKind.bits, IntKind.signed]; simp; omega
theorem mk_quo {k : Nat} (h : k ≤ 4611686018427387904) : IntKind.i64.wrap ((k : Int).tdiv 10) = ((k / 10 : Nat) : Int) := by
  have h1 : (k : Int).tdiv 10 = ((k / 10 : Nat) : Int) := by rw [Int.tdiv_eq_ediv_of_nonneg (by omega)]; omega
  rw [h1]; exact in64 (by omega)
def m3 (k : Int) : Bool := (k.tmod 3) == 0
/-- n marks, s numbers each, from k on. -/
def marks {α : Type} (f : Int → α) (s : Int) : Nat → Int → List α
  | 0, _ => []
  | n + 1, k => f k :: marks f s n (k + s)
theorem marks_len {α : Type} (f : Int → α) (s : Int) : ∀ (n : Nat) (k : Int), (marks f s n k).length = n
  | 0, _ => rfl
  | n + 1, k => by simp [marks, marks_len f s n]
theorem marks_snoc {α : Type} (f : Int → α) (s : Int) : ∀ (n : Nat) (k : Int), marks f s (n + 1) k = marks f s n k ++ [f (k + s * n)]
  | 0, k => by simp [marks]
  | n + 1, k => by
    rw [marks, marks_snoc f s n (k + s)]
    simp only [marks, List.cons_append]
    have e : k + s + s * (n : Int) = k + s * ((n + 1 : Nat) : Int) := by
      rw [Int.natCast_add, Int.mul_add, Int.natCast_one, Int.mul_one, Int.add_assoc, Int.add_comm s]
    rw [e]
theorem marks_get {α : Type} (f : Int → α) (s : Int) : ∀ (n i : Nat) (k : Int), i < n → (marks f s n k)[i]? = some (f (k + s * i))
  | n + 1, 0, k, _ => by simp [marks]
  | n + 1, i + 1, k, h => by
    have e : k + s + s * (i : Int) = k + s * ((i + 1 : Nat) : Int) := by
      rw [Int.natCast_add, Int.mul_add, Int.natCast_one, Int.mul_one, Int.add_assoc, Int.add_comm s]
    simp only [marks, List.getElem?_cons_succ, marks_get f s n i (k + s) (by omega), e]
theorem drop_get {α β : Type} {f : α → β} {l : List α} {i : Nat} {x : α} (h : l[i]? = some x) : (l.drop i).map f = f x :: (l.drop (i + 1)).map f := by rw [drop_some h]; rfl
theorem marks_step {α : Type} {f : Int → α} {s : Int} {i : Nat} {k : Int} {g : α → List AV} {z : List AV} {B : List (List AV)} (h : g (f (k + s * i)) = z) : (marks f s i k).map g ++ z :: B = (marks f s (i + 1) k).map g ++ B := by
  rw [marks_snoc, List.map_append, List.append_assoc, ← h]; rfl

def mkClock (k : Int) : TClock := ⟨k⟩
def mkLease (k : Int) : TLease := ⟨k, (k + 1), (k + 1 + 1)⟩
def mkWatchAct (k : Int) : TWatchAct := ⟨k, (k + 1), (k + 1 + 1)⟩
def mkWrite (k : Int) : TWrite := ⟨markText k, markText (k + 1), m3 (k + 1 + 1)⟩
def mkDisk (k : Int) : TDisk := ⟨markText k, markText (k + 1)⟩
def mkLock (k : Int) : TLock := ⟨markText k, (k + 1), m3 (k + 1 + 1)⟩
def mkVer (k : Int) : TVer := ⟨k, markText (k + 1), m3 (k + 1 + 1)⟩
def mkTold (k : Int) : TTold := ⟨k, m3 (k + 1), (k + 1 + 1)⟩
def mkDealAct (k : Int) : TDealAct := ⟨k, (k + 1), (k + 1 + 1), (k + 1 + 1 + 1)⟩
def mkOp (k : Int) : TOp := ⟨k, markText (k + 1), markText (k + 1 + 1), (k + 1 + 1 + 1)⟩
def mkGot (k : Int) : TGot := ⟨markText k, markText (k + 1), m3 (k + 1 + 1)⟩
def mkWorldAct (k : Int) : TWorldAct := ⟨k, (k + 1), (k + 1 + 1)⟩
def mkFeedItem (k : Int) : TFeedItem := ⟨k, (k + 1), markText (k + 1 + 1), markText (k + 1 + 1 + 1), m3 (k + 1 + 1 + 1 + 1)⟩
def mkIdx (k : Int) : TIdx := ⟨markText k, (k + 1), (k + 1 + 1)⟩
def mkVLease (k : Int) : TVLease := ⟨k, (k + 1)⟩
def mkRenewAct (k : Int) : TRenewAct := ⟨k, (k + 1), (k + 1 + 1)⟩
def mkLetter (k : Int) : TLetter := ⟨k, (k + 1), (k + 1 + 1), markText (k + 1 + 1 + 1)⟩
def mkWon (k : Int) : TWon := ⟨k, (k + 1)⟩
def mkPollAct (k : Int) : TPollAct := ⟨k, (k + 1), (k + 1 + 1)⟩
def TRec.ocs (c : TRec) (x : Value × Value) : List AV := [AV.int c.Kind, AV.int c.Txn, AV.int c.Time, AV.int c.Lead, AV.is x.1, AV.is x.2, AV.bool c.Yes]
def TRec.mark (c : TRec) (k : Int) : TRec := ⟨c.Kind, c.Txn, c.Time, c.Lead, marks markText 1 c.Reads.length (k), marks mkWrite 3 c.Writes.length (k + 1 * c.Reads.length), c.Yes⟩
def TRec.markN (c : TRec) (k : Int) : Int := k + 1 * c.Reads.length + 3 * c.Writes.length
def TPlaces.ocs (c : TPlaces) (x : Value × Value) : List AV := [AV.int c.Ver, AV.is x.1, AV.is x.2]
def TPlaces.mark (c : TPlaces) (k : Int) : TPlaces := ⟨c.Ver, marks markText 1 c.Cuts.length (k), marks (fun k : Int => k) 1 c.Groups.length (k + 1 * c.Cuts.length)⟩
def TPlaces.markN (c : TPlaces) (k : Int) : Int := k + 1 * c.Cuts.length + 1 * c.Groups.length
def TMove.ocs (c : TMove) (x : Value × Value) : List AV := [AV.str c.Low, AV.str c.High, AV.int c.Phase, AV.is x.1, AV.is x.2, AV.str c.Last, AV.bool c.Over]
def TMove.mark (c : TMove) (k : Int) : TMove := ⟨c.Low, c.High, c.Phase, marks mkWrite 3 c.From.length (k), marks mkWrite 3 c.To.length (k + 3 * c.From.length), c.Last, c.Over⟩
def TMove.markN (c : TMove) (k : Int) : Int := k + 3 * c.From.length + 3 * c.To.length
end Go.M
