/- Texts of the claim, part 2. -/
import Derived.Lib.ItoaNum
import Derived.Lib.ItoaMem
import Derived.Lib.Split
import Derived.Lib.SplitLaws
import Derived.Lib.AtoiAllCases
import Derived.Lib.Strings
import Derived.Lib.IndexMore
import Derived.Lib.Join
import Derived.Test.YtmlmmgeadombbaaGreatDoorRows
import Derived.Laws.BytesArg
import Derived.Test.YtmlmmgeadombbaaGreatDoorZRecords1

set_option linter.unusedVariables false
namespace Go.M
open Go.AV
abbrev Str := List UInt8
@[reducible] def strs (l : List Str) : AV := AV.list 1 (l.map fun s => [AV.str s])
@[reducible] def ints (l : List Int) : AV := AV.list 1 (l.map fun s => [AV.int s])
def sizeL {α : Type} (f : α → Nat) (l : List α) : Nat := l.length + (l.map f).sum
def szR (n : Nat) (left : Int) : Int := if left < n then -1 else left - n
theorem sum_le {α : Type} (f : α → Nat) : ∀ (l : List α) (i : Nat) (x : α), l[i]? = some x → ((l.take i).map f).sum + f x ≤ (l.map f).sum
  | [], i, x, h => by simp at h
  | y :: l, 0, x, h => by simp at h; subst h; simp
  | y :: l, i + 1, x, h => by
    have := sum_le f l i x (by simpa using h)
    simp only [List.take_succ_cons, List.map_cons, List.sum_cons]; omega
theorem sizeL_mem {α : Type} {f : α → Nat} {l : List α} {x : α} (h : x ∈ l) : f x ≤ sizeL f l := by
  obtain ⟨i, hi⟩ := List.getElem?_of_mem h
  have := sum_le f l i x hi
  unfold sizeL; omega
theorem sizeL_len {α : Type} {f : α → Nat} {l : List α} : l.length ≤ sizeL f l := by unfold sizeL; omega
theorem sizeL_get {α : Type} {f : α → Nat} {l : List α} {i : Nat} {x : α} (h : l[i]? = some x) : f x ≤ sizeL f l := sizeL_mem (List.mem_of_getElem? h)
theorem take_eq_of {α : Type} {a b : List α} {i : Nat} (hl : a.length = b.length) (h : a.take i = b.take i) (hi : a.length ≤ i) : a = b := by
  rwa [List.take_of_length_le hi, List.take_of_length_le (by omega)] at h
theorem take_eq_succ {α : Type} {a b : List α} {i : Nat} {x : α} (h : a.take i = b.take i) (ha : a[i]? = some x) (hb : b[i]? = some x) : a.take (i + 1) = b.take (i + 1) := by
  rw [List.take_add_one, List.take_add_one, h, ha, hb]
def bs {α : Type} (f : α → Int) (l : List α) (i j : Nat) : Nat :=
  if i < j then
    match l[(i + j) / 2]? with
    | some x => if f x < 0 then bs f l ((i + j) / 2 + 1) j else bs f l i ((i + j) / 2)
    | none => i
  else i
termination_by j - i
def idxFrom {α : Type} (p : α → Bool) : List α → Int → Int
  | [], _ => -1
  | x :: xs, k => if p x then k else idxFrom p xs (k + 1)
theorem idxFrom_any {α : Type} (p : α → Bool) : ∀ (l : List α) (k : Int), 0 ≤ k → decide (0 ≤ idxFrom p l k) = l.any p
  | [], _, _ => rfl
  | x :: xs, k, h => by
    unfold idxFrom
    cases hp : p x with
    | true => simp [hp]; exact h
    | false => simp [hp, idxFrom_any p xs (k + 1) (by omega)]
structure TClock where
  Off : Int
deriving DecidableEq, Inhabited
def TClock.cs (c : TClock) : List AV := [AV.int c.Off]
theorem TClock.flat (c : TClock) : ∀ x ∈ c.cs, Flat x := (flatl_cons (flat_ik _ _) flatl_nil)
def TClock.size (c : TClock) : Nat := 0
structure TLease where
  Who : Int
  From : Int
  Until : Int
deriving DecidableEq, Inhabited
def TLease.cs (c : TLease) : List AV := [AV.int c.Who, AV.int c.From, AV.int c.Until]
theorem TLease.flat (c : TLease) : ∀ x ∈ c.cs, Flat x := (flatl_cons (flat_ik _ _) (flatl_cons (flat_ik _ _) (flatl_cons (flat_ik _ _) flatl_nil)))
def TLease.size (c : TLease) : Nat := 0
structure TWatch where
  True : Int
  Clocks : List TClock
  Given : List TLease
deriving DecidableEq, Inhabited
def TWatch.cs (c : TWatch) : List AV := [AV.int c.True, AV.list 1 (c.Clocks.map TClock.cs), AV.list 3 (c.Given.map TLease.cs)]
def TWatch.size (c : TWatch) : Nat := c.Clocks.length + c.Given.length
structure TWatchAct where
  Kind : Int
  Who : Int
  By : Int
deriving DecidableEq, Inhabited
def TWatchAct.cs (c : TWatchAct) : List AV := [AV.int c.Kind, AV.int c.Who, AV.int c.By]
theorem TWatchAct.flat (c : TWatchAct) : ∀ x ∈ c.cs, Flat x := (flatl_cons (flat_ik _ _) (flatl_cons (flat_ik _ _) (flatl_cons (flat_ik _ _) flatl_nil)))
def TWatchAct.size (c : TWatchAct) : Nat := 0
structure TWrite where
  Key : Str
  Val : Str
  Gone : Bool
deriving DecidableEq, Inhabited
def TWrite.cs (c : TWrite) : List AV := [AV.str c.Key, AV.str c.Val, AV.bool c.Gone]
theorem TWrite.flat (c : TWrite) : ∀ x ∈ c.cs, Flat x := (flatl_cons (flat_str _) (flatl_cons (flat_str _) (flatl_cons (flat_bool _) flatl_nil)))
def TWrite.size (c : TWrite) : Nat := c.Key.length + c.Val.length
def TWrite.ok (c : TWrite) : Prop := c.Key.length ≤ 9223372036854775807 ∧ c.Val.length ≤ 9223372036854775807
structure TRec where
  Kind : Int
  Txn : Int
  Time : Int
  Lead : Int
  Reads : List Str
  Writes : List TWrite
  Yes : Bool
deriving DecidableEq, Inhabited
def TRec.cs (c : TRec) : List AV := [AV.int c.Kind, AV.int c.Txn, AV.int c.Time, AV.int c.Lead, strs c.Reads, AV.list 3 (c.Writes.map TWrite.cs), AV.bool c.Yes]
def TRec.size (c : TRec) : Nat := sizeL (fun x => x.length) c.Reads + sizeL TWrite.size c.Writes
def TRec.ok (c : TRec) : Prop := (∀ x ∈ c.Reads, x.length ≤ 9223372036854775807) ∧ (∀ x ∈ c.Writes, x.ok)
structure TEntry where
  Term : Int
  Rec : TRec
deriving DecidableEq, Inhabited
def TEntry.cs (c : TEntry) : List AV := [AV.int c.Term, AV.int c.Rec.Kind, AV.int c.Rec.Txn, AV.int c.Rec.Time, AV.int c.Rec.Lead, strs c.Rec.Reads, AV.list 3 (c.Rec.Writes.map TWrite.cs), AV.bool c.Rec.Yes]
def TEntry.size (c : TEntry) : Nat := c.Rec.size
def TEntry.ok (c : TEntry) : Prop := c.Rec.ok
structure TDisk where
  Kept : Str
  Loose : Str
deriving DecidableEq, Inhabited
def TDisk.cs (c : TDisk) : List AV := [AV.str c.Kept, AV.str c.Loose]
theorem TDisk.flat (c : TDisk) : ∀ x ∈ c.cs, Flat x := (flatl_cons (flat_str _) (flatl_cons (flat_str _) flatl_nil))
def TDisk.size (c : TDisk) : Nat := c.Kept.length + c.Loose.length
def TDisk.ok (c : TDisk) : Prop := c.Kept.length ≤ 9223372036854775807 ∧ c.Loose.length ≤ 9223372036854775807
structure TReplica where
  Up : Bool
  Log : List TEntry
  Sure : Int
deriving DecidableEq, Inhabited
def TReplica.cs (c : TReplica) : List AV := [AV.bool c.Up, AV.list 8 (c.Log.map TEntry.cs), AV.int c.Sure]
def TReplica.size (c : TReplica) : Nat := sizeL TEntry.size c.Log
def TReplica.ok (c : TReplica) : Prop := (∀ x ∈ c.Log, x.ok)
structure TGroup where
  Reps : List TReplica
  Term : Int
  Lead : Int
deriving DecidableEq, Inhabited
def TGroup.cs (c : TGroup) : List AV := [AV.list 3 (c.Reps.map TReplica.cs), AV.int c.Term, AV.int c.Lead]
def TGroup.size (c : TGroup) : Nat := sizeL TReplica.size c.Reps
def TGroup.ok (c : TGroup) : Prop := (∀ x ∈ c.Reps, x.ok)
structure THouse where
  Group : TGroup
  Disks : List TDisk
deriving DecidableEq, Inhabited
def THouse.cs (c : THouse) : List AV := [AV.list 3 (c.Group.Reps.map TReplica.cs), AV.int c.Group.Term, AV.int c.Group.Lead, AV.list 2 (c.Disks.map TDisk.cs)]
def THouse.size (c : THouse) : Nat := c.Group.size + sizeL TDisk.size c.Disks
def THouse.ok (c : THouse) : Prop := c.Group.ok ∧ (∀ x ∈ c.Disks, x.ok)
structure TGroupAct where
  Kind : Int
  Rep : Int
  Rec : TRec
deriving DecidableEq, Inhabited
def TGroupAct.cs (c : TGroupAct) : List AV := [AV.int c.Kind, AV.int c.Rep, AV.int c.Rec.Kind, AV.int c.Rec.Txn, AV.int c.Rec.Time, AV.int c.Rec.Lead, strs c.Rec.Reads, AV.list 3 (c.Rec.Writes.map TWrite.cs), AV.bool c.Rec.Yes]
def TGroupAct.size (c : TGroupAct) : Nat := c.Rec.size
def TGroupAct.ok (c : TGroupAct) : Prop := c.Rec.ok
structure THouseAct where
  Kind : Int
  Rep : Int
  Rec : TRec
  Keep : Int
  Torn : Bool
deriving DecidableEq, Inhabited
def THouseAct.cs (c : THouseAct) : List AV := [AV.int c.Kind, AV.int c.Rep, AV.int c.Rec.Kind, AV.int c.Rec.Txn, AV.int c.Rec.Time, AV.int c.Rec.Lead, strs c.Rec.Reads, AV.list 3 (c.Rec.Writes.map TWrite.cs), AV.bool c.Rec.Yes, AV.int c.Keep, AV.bool c.Torn]
def THouseAct.size (c : THouseAct) : Nat := c.Rec.size
def THouseAct.ok (c : THouseAct) : Prop := c.Rec.ok
structure TLock where
  Key : Str
  Txn : Int
  Write : Bool
deriving DecidableEq, Inhabited
def TLock.cs (c : TLock) : List AV := [AV.str c.Key, AV.int c.Txn, AV.bool c.Write]
theorem TLock.flat (c : TLock) : ∀ x ∈ c.cs, Flat x := (flatl_cons (flat_str _) (flatl_cons (flat_ik _ _) (flatl_cons (flat_bool _) flatl_nil)))
def TLock.size (c : TLock) : Nat := c.Key.length
def TLock.ok (c : TLock) : Prop := c.Key.length ≤ 9223372036854775807
structure TVer where
  Time : Int
  Val : Str
  Gone : Bool
deriving DecidableEq, Inhabited
def TVer.cs (c : TVer) : List AV := [AV.int c.Time, AV.str c.Val, AV.bool c.Gone]
theorem TVer.flat (c : TVer) : ∀ x ∈ c.cs, Flat x := (flatl_cons (flat_ik _ _) (flatl_cons (flat_str _) (flatl_cons (flat_bool _) flatl_nil)))
def TVer.size (c : TVer) : Nat := c.Val.length
def TVer.ok (c : TVer) : Prop := c.Val.length ≤ 9223372036854775807
structure TCell where
  Key : Str
  Vers : List TVer
deriving DecidableEq, Inhabited
def TCell.cs (c : TCell) : List AV := [AV.str c.Key, AV.list 3 (c.Vers.map TVer.cs)]
def TCell.size (c : TCell) : Nat := c.Key.length + sizeL TVer.size c.Vers
def TCell.ok (c : TCell) : Prop := c.Key.length ≤ 9223372036854775807 ∧ (∀ x ∈ c.Vers, x.ok)
structure THeld where
  Txn : Int
  Time : Int
  Lead : Int
  Reads : List Str
  Writes : List TWrite
deriving DecidableEq, Inhabited
def THeld.cs (c : THeld) : List AV := [AV.int c.Txn, AV.int c.Time, AV.int c.Lead, strs c.Reads, AV.list 3 (c.Writes.map TWrite.cs)]
def THeld.size (c : THeld) : Nat := sizeL (fun x => x.length) c.Reads + sizeL TWrite.size c.Writes
def THeld.ok (c : THeld) : Prop := (∀ x ∈ c.Reads, x.length ≤ 9223372036854775807) ∧ (∀ x ∈ c.Writes, x.ok)
structure TTold where
  Txn : Int
  Yes : Bool
  Time : Int
deriving DecidableEq, Inhabited
def TTold.cs (c : TTold) : List AV := [AV.int c.Txn, AV.bool c.Yes, AV.int c.Time]
theorem TTold.flat (c : TTold) : ∀ x ∈ c.cs, Flat x := (flatl_cons (flat_ik _ _) (flatl_cons (flat_bool _) (flatl_cons (flat_ik _ _) flatl_nil)))
def TTold.size (c : TTold) : Nat := 0
structure TState where
  Floor : Int
  Cells : List TCell
  Held : List THeld
  Told : List TTold
deriving DecidableEq, Inhabited
def TState.cs (c : TState) : List AV := [AV.int c.Floor, AV.list 2 (c.Cells.map TCell.cs), AV.list 5 (c.Held.map THeld.cs), AV.list 3 (c.Told.map TTold.cs)]
def TState.size (c : TState) : Nat := sizeL TCell.size c.Cells + sizeL THeld.size c.Held + c.Told.length
def TState.ok (c : TState) : Prop := (∀ x ∈ c.Cells, x.ok) ∧ (∀ x ∈ c.Held, x.ok)
structure TSpan where
  Low : Int
  High : Int
deriving DecidableEq, Inhabited
def TSpan.cs (c : TSpan) : List AV := [AV.int c.Low, AV.int c.High]
theorem TSpan.flat (c : TSpan) : ∀ x ∈ c.cs, Flat x := (flatl_cons (flat_ik _ _) (flatl_cons (flat_ik _ _) flatl_nil))
def TSpan.size (c : TSpan) : Nat := 0
structure TOrder where
  Txn : Int
  Reads : List Str
  Writes : List TWrite
deriving DecidableEq, Inhabited
def TOrder.cs (c : TOrder) : List AV := [AV.int c.Txn, strs c.Reads, AV.list 3 (c.Writes.map TWrite.cs)]
def TOrder.size (c : TOrder) : Nat := sizeL (fun x => x.length) c.Reads + sizeL TWrite.size c.Writes
def TOrder.ok (c : TOrder) : Prop := (∀ x ∈ c.Reads, x.length ≤ 9223372036854775807) ∧ (∀ x ∈ c.Writes, x.ok)
structure TDeal where
  Cuts : List Str
  States : List TState
  Orders : List TOrder
deriving DecidableEq, Inhabited
def TDeal.cs (c : TDeal) : List AV := [strs c.Cuts, AV.list 4 (c.States.map TState.cs), AV.list 3 (c.Orders.map TOrder.cs)]
def TDeal.size (c : TDeal) : Nat := sizeL (fun x => x.length) c.Cuts + sizeL TState.size c.States + sizeL TOrder.size c.Orders
def TDeal.ok (c : TDeal) : Prop := (∀ x ∈ c.Cuts, x.length ≤ 9223372036854775807) ∧ (∀ x ∈ c.States, x.ok) ∧ (∀ x ∈ c.Orders, x.ok)
structure TDealAct where
  Kind : Int
  Txn : Int
  Part : Int
  Time : Int
deriving DecidableEq, Inhabited
def TDealAct.cs (c : TDealAct) : List AV := [AV.int c.Kind, AV.int c.Txn, AV.int c.Part, AV.int c.Time]
theorem TDealAct.flat (c : TDealAct) : ∀ x ∈ c.cs, Flat x := (flatl_cons (flat_ik _ _) (flatl_cons (flat_ik _ _) (flatl_cons (flat_ik _ _) (flatl_cons (flat_ik _ _) flatl_nil))))
def TDealAct.size (c : TDealAct) : Nat := 0
structure TOp where
  Kind : Int
  Key : Str
  Val : Str
  By : Int
deriving DecidableEq, Inhabited
def TOp.cs (c : TOp) : List AV := [AV.int c.Kind, AV.str c.Key, AV.str c.Val, AV.int c.By]
theorem TOp.flat (c : TOp) : ∀ x ∈ c.cs, Flat x := (flatl_cons (flat_ik _ _) (flatl_cons (flat_str _) (flatl_cons (flat_str _) (flatl_cons (flat_ik _ _) flatl_nil))))
def TOp.size (c : TOp) : Nat := c.Key.length + c.Val.length
def TOp.ok (c : TOp) : Prop := c.Key.length ≤ 9223372036854775807 ∧ c.Val.length ≤ 9223372036854775807
structure TGot where
  Key : Str
  Val : Str
  There : Bool
deriving DecidableEq, Inhabited
def TGot.cs (c : TGot) : List AV := [AV.str c.Key, AV.str c.Val, AV.bool c.There]
theorem TGot.flat (c : TGot) : ∀ x ∈ c.cs, Flat x := (flatl_cons (flat_str _) (flatl_cons (flat_str _) (flatl_cons (flat_bool _) flatl_nil)))
def TGot.size (c : TGot) : Nat := c.Key.length + c.Val.length
def TGot.ok (c : TGot) : Prop := c.Key.length ≤ 9223372036854775807 ∧ c.Val.length ≤ 9223372036854775807
structure TWorldTxn where
  Ops : List TOp
  Got : List TGot
  Terms : List Int
  Begin : Int
  End : Int
  Yes : Bool
  Time : Int
  Dead : Bool
  Put : Bool
  Stopped : Bool
deriving DecidableEq, Inhabited
def TWorldTxn.cs (c : TWorldTxn) : List AV := [AV.list 4 (c.Ops.map TOp.cs), AV.list 3 (c.Got.map TGot.cs), ints c.Terms, AV.int c.Begin, AV.int c.End, AV.bool c.Yes, AV.int c.Time, AV.bool c.Dead, AV.bool c.Put, AV.bool c.Stopped]
def TWorldTxn.size (c : TWorldTxn) : Nat := sizeL TOp.size c.Ops + sizeL TGot.size c.Got + c.Terms.length
def TWorldTxn.ok (c : TWorldTxn) : Prop := (∀ x ∈ c.Ops, x.ok) ∧ (∀ x ∈ c.Got, x.ok)
structure TWorldLook where
  Node : Int
  Keys : List Str
  Got : List TGot
  Time : Int
  Begin : Int
  End : Int
deriving DecidableEq, Inhabited
def TWorldLook.cs (c : TWorldLook) : List AV := [AV.int c.Node, strs c.Keys, AV.list 3 (c.Got.map TGot.cs), AV.int c.Time, AV.int c.Begin, AV.int c.End]
def TWorldLook.size (c : TWorldLook) : Nat := sizeL (fun x => x.length) c.Keys + sizeL TGot.size c.Got
def TWorldLook.ok (c : TWorldLook) : Prop := (∀ x ∈ c.Keys, x.length ≤ 9223372036854775807) ∧ (∀ x ∈ c.Got, x.ok)
structure TWorld where
  Now : Int
  Count : Int
  Clocks : List TClock
  Cuts : List Str
  Groups : List TGroup
  Locks : List (List TLock)
  Promised : List Int
  Txns : List TWorldTxn
  Looks : List TWorldLook
deriving DecidableEq, Inhabited
def TWorld.cs (c : TWorld) : List AV := [AV.int c.Now, AV.int c.Count, AV.list 1 (c.Clocks.map TClock.cs), strs c.Cuts, AV.list 3 (c.Groups.map TGroup.cs), AV.list 1 (c.Locks.map fun x => [AV.list 3 (x.map TLock.cs)]), ints c.Promised, AV.list 10 (c.Txns.map TWorldTxn.cs), AV.list 6 (c.Looks.map TWorldLook.cs)]
def TWorld.size (c : TWorld) : Nat := c.Clocks.length + sizeL (fun x => x.length) c.Cuts + sizeL TGroup.size c.Groups + sizeL (fun x => sizeL TLock.size x) c.Locks + c.Promised.length + sizeL TWorldTxn.size c.Txns + sizeL TWorldLook.size c.Looks
def TWorld.ok (c : TWorld) : Prop := (∀ x ∈ c.Cuts, x.length ≤ 9223372036854775807) ∧ (∀ x ∈ c.Groups, x.ok) ∧ (∀ x ∈ c.Locks, (∀ y ∈ x, y.ok)) ∧ (∀ x ∈ c.Txns, x.ok) ∧ (∀ x ∈ c.Looks, x.ok)
structure TWorldAct where
  Kind : Int
  At : Int
  By : Int
deriving DecidableEq, Inhabited
def TWorldAct.cs (c : TWorldAct) : List AV := [AV.int c.Kind, AV.int c.At, AV.int c.By]
theorem TWorldAct.flat (c : TWorldAct) : ∀ x ∈ c.cs, Flat x := (flatl_cons (flat_ik _ _) (flatl_cons (flat_ik _ _) (flatl_cons (flat_ik _ _) flatl_nil)))
def TWorldAct.size (c : TWorldAct) : Nat := 0
structure TDeed where
  Txn : Int
  Begin : Int
  End : Int
  Yes : Bool
  Look : Bool
  Time : Int
  Got : List TGot
  Writes : List TWrite
deriving DecidableEq, Inhabited
def TDeed.cs (c : TDeed) : List AV := [AV.int c.Txn, AV.int c.Begin, AV.int c.End, AV.bool c.Yes, AV.bool c.Look, AV.int c.Time, AV.list 3 (c.Got.map TGot.cs), AV.list 3 (c.Writes.map TWrite.cs)]
def TDeed.size (c : TDeed) : Nat := sizeL TGot.size c.Got + sizeL TWrite.size c.Writes
def TDeed.ok (c : TDeed) : Prop := (∀ x ∈ c.Got, x.ok) ∧ (∀ x ∈ c.Writes, x.ok)
structure TPlaces where
  Ver : Int
  Cuts : List Str
  Groups : List Int
deriving DecidableEq, Inhabited
def TPlaces.cs (c : TPlaces) : List AV := [AV.int c.Ver, strs c.Cuts, ints c.Groups]
def TPlaces.size (c : TPlaces) : Nat := sizeL (fun x => x.length) c.Cuts + c.Groups.length
def TPlaces.ok (c : TPlaces) : Prop := (∀ x ∈ c.Cuts, x.length ≤ 9223372036854775807)
structure TAtlas where
  Maps : List TPlaces
  Knows : List Int
deriving DecidableEq, Inhabited
def TAtlas.cs (c : TAtlas) : List AV := [AV.list 3 (c.Maps.map TPlaces.cs), ints c.Knows]
def TAtlas.size (c : TAtlas) : Nat := sizeL TPlaces.size c.Maps + c.Knows.length
def TAtlas.ok (c : TAtlas) : Prop := (∀ x ∈ c.Maps, x.ok)
structure TMove where
  Low : Str
  High : Str
  Phase : Int
  From : List TWrite
  To : List TWrite
  Last : Str
  Over : Bool
deriving DecidableEq, Inhabited
def TMove.cs (c : TMove) : List AV := [AV.str c.Low, AV.str c.High, AV.int c.Phase, AV.list 3 (c.From.map TWrite.cs), AV.list 3 (c.To.map TWrite.cs), AV.str c.Last, AV.bool c.Over]
def TMove.size (c : TMove) : Nat := c.Low.length + c.High.length + sizeL TWrite.size c.From + sizeL TWrite.size c.To + c.Last.length
def TMove.ok (c : TMove) : Prop := c.Low.length ≤ 9223372036854775807 ∧ c.High.length ≤ 9223372036854775807 ∧ (∀ x ∈ c.From, x.ok) ∧ (∀ x ∈ c.To, x.ok) ∧ c.Last.length ≤ 9223372036854775807
structure TMoveAct where
  Kind : Int
  Write : TWrite
  Many : Int
deriving DecidableEq, Inhabited
def TMoveAct.cs (c : TMoveAct) : List AV := [AV.int c.Kind, AV.str c.Write.Key, AV.str c.Write.Val, AV.bool c.Write.Gone, AV.int c.Many]
theorem TMoveAct.flat (c : TMoveAct) : ∀ x ∈ c.cs, Flat x := (flatl_cons (flat_ik _ _) (flatl_cons (flat_str _) (flatl_cons (flat_str _) (flatl_cons (flat_bool _) (flatl_cons (flat_ik _ _) flatl_nil)))))
def TMoveAct.size (c : TMoveAct) : Nat := c.Write.size
def TMoveAct.ok (c : TMoveAct) : Prop := c.Write.ok
structure TFeedItem where
  Time : Int
  Group : Int
  Key : Str
  Val : Str
  Gone : Bool
deriving DecidableEq, Inhabited
def TFeedItem.cs (c : TFeedItem) : List AV := [AV.int c.Time, AV.int c.Group, AV.str c.Key, AV.str c.Val, AV.bool c.Gone]
theorem TFeedItem.flat (c : TFeedItem) : ∀ x ∈ c.cs, Flat x := (flatl_cons (flat_ik _ _) (flatl_cons (flat_ik _ _) (flatl_cons (flat_str _) (flatl_cons (flat_str _) (flatl_cons (flat_bool _) flatl_nil)))))
def TFeedItem.size (c : TFeedItem) : Nat := c.Key.length + c.Val.length
def TFeedItem.ok (c : TFeedItem) : Prop := c.Key.length ≤ 9223372036854775807 ∧ c.Val.length ≤ 9223372036854775807
structure TFeeder where
  Done : Int
deriving DecidableEq, Inhabited
def TFeeder.cs (c : TFeeder) : List AV := [AV.int c.Done]
theorem TFeeder.flat (c : TFeeder) : ∀ x ∈ c.cs, Flat x := (flatl_cons (flat_ik _ _) flatl_nil)
def TFeeder.size (c : TFeeder) : Nat := 0
structure TIdx where
  Name : Str
  Col : Int
  Stage : Int
deriving DecidableEq, Inhabited
def TIdx.cs (c : TIdx) : List AV := [AV.str c.Name, AV.int c.Col, AV.int c.Stage]
theorem TIdx.flat (c : TIdx) : ∀ x ∈ c.cs, Flat x := (flatl_cons (flat_str _) (flatl_cons (flat_ik _ _) (flatl_cons (flat_ik _ _) flatl_nil)))
def TIdx.size (c : TIdx) : Nat := c.Name.length
def TIdx.ok (c : TIdx) : Prop := c.Name.length ≤ 9223372036854775807
structure TTable where
  Name : Str
  Cols : List Str
  Idxs : List TIdx
deriving DecidableEq, Inhabited
def TTable.cs (c : TTable) : List AV := [AV.str c.Name, strs c.Cols, AV.list 3 (c.Idxs.map TIdx.cs)]
def TTable.size (c : TTable) : Nat := c.Name.length + sizeL (fun x => x.length) c.Cols + sizeL TIdx.size c.Idxs
def TTable.ok (c : TTable) : Prop := c.Name.length ≤ 9223372036854775807 ∧ (∀ x ∈ c.Cols, x.length ≤ 9223372036854775807) ∧ (∀ x ∈ c.Idxs, x.ok)
structure TRow where
  Vals : List Str
deriving DecidableEq, Inhabited
def TRow.cs (c : TRow) : List AV := [strs c.Vals]
def TRow.size (c : TRow) : Nat := sizeL (fun x => x.length) c.Vals
def TRow.ok (c : TRow) : Prop := (∀ x ∈ c.Vals, x.length ≤ 9223372036854775807)
structure TRowAct where
  Kind : Int
  Old : TRow
  New : TRow
deriving DecidableEq, Inhabited
def TRowAct.cs (c : TRowAct) : List AV := [AV.int c.Kind, strs c.Old.Vals, strs c.New.Vals]
def TRowAct.size (c : TRowAct) : Nat := c.Old.size + c.New.size
def TRowAct.ok (c : TRowAct) : Prop := c.Old.ok ∧ c.New.ok
structure TShift where
  Name : Str
  Ways : List TTable
  At : List Int
  Store : List TWrite
deriving DecidableEq, Inhabited
def TShift.cs (c : TShift) : List AV := [AV.str c.Name, AV.list 3 (c.Ways.map TTable.cs), ints c.At, AV.list 3 (c.Store.map TWrite.cs)]
def TShift.size (c : TShift) : Nat := c.Name.length + sizeL TTable.size c.Ways + c.At.length + sizeL TWrite.size c.Store
def TShift.ok (c : TShift) : Prop := c.Name.length ≤ 9223372036854775807 ∧ (∀ x ∈ c.Ways, x.ok) ∧ (∀ x ∈ c.Store, x.ok)
structure TShiftAct where
  Server : Int
  Step : Int
  Act : TRowAct
deriving DecidableEq, Inhabited
def TShiftAct.cs (c : TShiftAct) : List AV := [AV.int c.Server, AV.int c.Step, AV.int c.Act.Kind, strs c.Act.Old.Vals, strs c.Act.New.Vals]
def TShiftAct.size (c : TShiftAct) : Nat := c.Act.size
def TShiftAct.ok (c : TShiftAct) : Prop := c.Act.ok
structure TVLease where
  Ver : Int
  Until : Int
deriving DecidableEq, Inhabited
def TVLease.cs (c : TVLease) : List AV := [AV.int c.Ver, AV.int c.Until]
theorem TVLease.flat (c : TVLease) : ∀ x ∈ c.cs, Flat x := (flatl_cons (flat_ik _ _) (flatl_cons (flat_ik _ _) flatl_nil))
def TVLease.size (c : TVLease) : Nat := 0
structure TRenew where
  Now : Int
  Master : TClock
  Clocks : List TClock
  Ver : Int
  Leases : List TVLease
deriving DecidableEq, Inhabited
def TRenew.cs (c : TRenew) : List AV := [AV.int c.Now, AV.int c.Master.Off, AV.list 1 (c.Clocks.map TClock.cs), AV.int c.Ver, AV.list 2 (c.Leases.map TVLease.cs)]
def TRenew.size (c : TRenew) : Nat := c.Clocks.length + c.Leases.length
structure TRenewAct where
  Kind : Int
  Who : Int
  By : Int
deriving DecidableEq, Inhabited
def TRenewAct.cs (c : TRenewAct) : List AV := [AV.int c.Kind, AV.int c.Who, AV.int c.By]
theorem TRenewAct.flat (c : TRenewAct) : ∀ x ∈ c.cs, Flat x := (flatl_cons (flat_ik _ _) (flatl_cons (flat_ik _ _) (flatl_cons (flat_ik _ _) flatl_nil)))
def TRenewAct.size (c : TRenewAct) : Nat := 0
structure TFill where
  Last : Str
  Over : Bool
deriving DecidableEq, Inhabited
def TFill.cs (c : TFill) : List AV := [AV.str c.Last, AV.bool c.Over]
theorem TFill.flat (c : TFill) : ∀ x ∈ c.cs, Flat x := (flatl_cons (flat_str _) (flatl_cons (flat_bool _) flatl_nil))
def TFill.size (c : TFill) : Nat := c.Last.length
def TFill.ok (c : TFill) : Prop := c.Last.length ≤ 9223372036854775807
structure TWork where
  Shift : TShift
  Up : TFill
  Down : TFill
deriving DecidableEq, Inhabited
def TWork.cs (c : TWork) : List AV := [AV.str c.Shift.Name, AV.list 3 (c.Shift.Ways.map TTable.cs), ints c.Shift.At, AV.list 3 (c.Shift.Store.map TWrite.cs), AV.str c.Up.Last, AV.bool c.Up.Over, AV.str c.Down.Last, AV.bool c.Down.Over]
def TWork.size (c : TWork) : Nat := c.Shift.size + c.Up.size + c.Down.size
def TWork.ok (c : TWork) : Prop := c.Shift.ok ∧ c.Up.ok ∧ c.Down.ok
structure TWorkAct where
  Kind : Int
  Many : Int
  Act : TShiftAct
deriving DecidableEq, Inhabited
def TWorkAct.cs (c : TWorkAct) : List AV := [AV.int c.Kind, AV.int c.Many, AV.int c.Act.Server, AV.int c.Act.Step, AV.int c.Act.Act.Kind, strs c.Act.Act.Old.Vals, strs c.Act.Act.New.Vals]
def TWorkAct.size (c : TWorkAct) : Nat := c.Act.size
def TWorkAct.ok (c : TWorkAct) : Prop := c.Act.ok
structure TStmt where
  Kind : Int
  Act : TRowAct
  Idx : Str
  Low : Str
  High : Str
deriving DecidableEq, Inhabited
def TStmt.cs (c : TStmt) : List AV := [AV.int c.Kind, AV.int c.Act.Kind, strs c.Act.Old.Vals, strs c.Act.New.Vals, AV.str c.Idx, AV.str c.Low, AV.str c.High]
def TStmt.size (c : TStmt) : Nat := c.Act.size + c.Idx.length + c.Low.length + c.High.length
def TStmt.ok (c : TStmt) : Prop := c.Act.ok ∧ c.Idx.length ≤ 9223372036854775807 ∧ c.Low.length ≤ 9223372036854775807 ∧ c.High.length ≤ 9223372036854775807
structure TCopy where
  Time : Int
  Rows : List TWrite
deriving DecidableEq, Inhabited
def TCopy.cs (c : TCopy) : List AV := [AV.int c.Time, AV.list 3 (c.Rows.map TWrite.cs)]
def TCopy.size (c : TCopy) : Nat := sizeL TWrite.size c.Rows
def TCopy.ok (c : TCopy) : Prop := (∀ x ∈ c.Rows, x.ok)
structure TDiff where
  From : Int
  To : Int
  List_ : List TFeedItem
deriving DecidableEq, Inhabited
def TDiff.cs (c : TDiff) : List AV := [AV.int c.From, AV.int c.To, AV.list 5 (c.List_.map TFeedItem.cs)]
def TDiff.size (c : TDiff) : Nat := sizeL TFeedItem.size c.List_
def TDiff.ok (c : TDiff) : Prop := (∀ x ∈ c.List_, x.ok)
structure TLiveJob where
  Ver : Int
  Fill : Bool
  Act : TRowAct
  Row : TRow
deriving DecidableEq, Inhabited
def TLiveJob.cs (c : TLiveJob) : List AV := [AV.int c.Ver, AV.bool c.Fill, AV.int c.Act.Kind, strs c.Act.Old.Vals, strs c.Act.New.Vals, strs c.Row.Vals]
def TLiveJob.size (c : TLiveJob) : Nat := c.Act.size + c.Row.size
def TLiveJob.ok (c : TLiveJob) : Prop := c.Act.ok ∧ c.Row.ok
structure TLive where
  Name : Str
  Ways : List TTable
  Low : Int
  Since : List Int
  Jobs : List TLiveJob
  World : TWorld
deriving DecidableEq, Inhabited
def TLive.cs (c : TLive) : List AV := [AV.str c.Name, AV.list 3 (c.Ways.map TTable.cs), AV.int c.Low, ints c.Since, AV.list 6 (c.Jobs.map TLiveJob.cs), AV.int c.World.Now, AV.int c.World.Count, AV.list 1 (c.World.Clocks.map TClock.cs), strs c.World.Cuts, AV.list 3 (c.World.Groups.map TGroup.cs), AV.list 1 (c.World.Locks.map fun x => [AV.list 3 (x.map TLock.cs)]), ints c.World.Promised, AV.list 10 (c.World.Txns.map TWorldTxn.cs), AV.list 6 (c.World.Looks.map TWorldLook.cs)]
def TLive.size (c : TLive) : Nat := c.Name.length + sizeL TTable.size c.Ways + c.Since.length + sizeL TLiveJob.size c.Jobs + c.World.size
def TLive.ok (c : TLive) : Prop := c.Name.length ≤ 9223372036854775807 ∧ (∀ x ∈ c.Ways, x.ok) ∧ (∀ x ∈ c.Jobs, x.ok) ∧ c.World.ok
structure TLiveAct where
  Kind : Int
  Act : TWorldAct
deriving DecidableEq, Inhabited
def TLiveAct.cs (c : TLiveAct) : List AV := [AV.int c.Kind, AV.int c.Act.Kind, AV.int c.Act.At, AV.int c.Act.By]
theorem TLiveAct.flat (c : TLiveAct) : ∀ x ∈ c.cs, Flat x := (flatl_cons (flat_ik _ _) (flatl_cons (flat_ik _ _) (flatl_cons (flat_ik _ _) (flatl_cons (flat_ik _ _) flatl_nil))))
def TLiveAct.size (c : TLiveAct) : Nat := 0
structure TLetter where
  From : Int
  To : Int
  Due : Int
  Body : Str
deriving DecidableEq, Inhabited
def TLetter.cs (c : TLetter) : List AV := [AV.int c.From, AV.int c.To, AV.int c.Due, AV.str c.Body]
theorem TLetter.flat (c : TLetter) : ∀ x ∈ c.cs, Flat x := (flatl_cons (flat_ik _ _) (flatl_cons (flat_ik _ _) (flatl_cons (flat_ik _ _) (flatl_cons (flat_str _) flatl_nil))))
def TLetter.size (c : TLetter) : Nat := c.Body.length
def TLetter.ok (c : TLetter) : Prop := c.Body.length ≤ 9223372036854775807
structure TNet where
  Now : Int
  Homes : List Int
  Far : Int
  Under : List TLetter
deriving DecidableEq, Inhabited
def TNet.cs (c : TNet) : List AV := [AV.int c.Now, ints c.Homes, AV.int c.Far, AV.list 4 (c.Under.map TLetter.cs)]
def TNet.size (c : TNet) : Nat := c.Homes.length + sizeL TLetter.size c.Under
def TNet.ok (c : TNet) : Prop := (∀ x ∈ c.Under, x.ok)
structure TVoter where
  Up : Bool
  Term : Int
  For : Int
  Yes : List Int
  Leads : Bool
deriving DecidableEq, Inhabited
def TVoter.cs (c : TVoter) : List AV := [AV.bool c.Up, AV.int c.Term, AV.int c.For, ints c.Yes, AV.bool c.Leads]
def TVoter.size (c : TVoter) : Nat := c.Yes.length
structure TWon where
  Term : Int
  Who : Int
deriving DecidableEq, Inhabited
def TWon.cs (c : TWon) : List AV := [AV.int c.Term, AV.int c.Who]
theorem TWon.flat (c : TWon) : ∀ x ∈ c.cs, Flat x := (flatl_cons (flat_ik _ _) (flatl_cons (flat_ik _ _) flatl_nil))
def TWon.size (c : TWon) : Nat := 0
structure TPoll where
  Voters : List TVoter
  Net : TNet
  Won : List TWon
deriving DecidableEq, Inhabited
def TPoll.cs (c : TPoll) : List AV := [AV.list 5 (c.Voters.map TVoter.cs), AV.int c.Net.Now, ints c.Net.Homes, AV.int c.Net.Far, AV.list 4 (c.Net.Under.map TLetter.cs), AV.list 2 (c.Won.map TWon.cs)]
def TPoll.size (c : TPoll) : Nat := sizeL TVoter.size c.Voters + c.Net.size + c.Won.length
def TPoll.ok (c : TPoll) : Prop := c.Net.ok
structure TPollAct where
  Kind : Int
  Who : Int
  By : Int
deriving DecidableEq, Inhabited
def TPollAct.cs (c : TPollAct) : List AV := [AV.int c.Kind, AV.int c.Who, AV.int c.By]
theorem TPollAct.flat (c : TPollAct) : ∀ x ∈ c.cs, Flat x := (flatl_cons (flat_ik _ _) (flatl_cons (flat_ik _ _) (flatl_cons (flat_ik _ _) flatl_nil)))
def TPollAct.size (c : TPollAct) : Nat := 0
end Go.M

namespace Go.M

def within (n lo hi : Int) : Bool := decide (lo ≤ n) && decide (n ≤ hi)
def lowDig (b : UInt8) : Bool := (decide ((97 : Int) ≤ (b.toNat : Int)) && decide ((b.toNat : Int) ≤ 122)) || (decide ((48 : Int) ≤ (b.toNat : Int)) && decide ((b.toNat : Int) ≤ 57))
def idxB (s : Str) (c : UInt8) : Int := firstIdx ⟨s.toArray⟩ c
def hasB (s o : Str) : Bool := s.all fun c => !(!lowDig c && decide (idxB o c < 0))
def goodKey (s : Str) : Bool := within s.length 1 12 && hasB s [46, 47]
def goodVal (s : Str) : Bool := decide ((s.length : Int) ≤ 24) && hasB s [46, 45, 44, 95]
def l3Bytes (s o : Str) : Bool := s.all fun c => (lowDig c || o.any fun d => ((c.toNat : Int) == (d.toNat : Int)))
def l3Key (s : Str) : Bool := within s.length 1 12 && l3Bytes s [46, 47]
theorem hasB_cons (c : UInt8) (s o : Str) : hasB (c :: s) o = (!(!lowDig c && decide (idxB o c < 0)) && hasB s o) := rfl
theorem l3Bytes_cons (c : UInt8) (s o : Str) : l3Bytes (c :: s) o = ((lowDig c || o.any fun d => ((c.toNat : Int) == (d.toNat : Int))) && l3Bytes s o) := rfl
end Go.M

namespace Go.M
end Go.M

set_option linter.unusedSimpArgs false
set_option linter.unusedVariables false
namespace Go.M
theorem idxB_neg (o : Str) (c : UInt8) : decide (idxB o c < 0) = !(o.any fun d => ((c.toNat : Int) == (d.toNat : Int))) := by
  have hm : (o.any fun d => ((c.toNat : Int) == (d.toNat : Int))) = decide (c ∈ o) := by
    rw [Bool.eq_iff_iff]
    simp only [List.any_eq_true, beq_iff_eq, decide_eq_true_eq]
    constructor
    · rintro ⟨d, hd, he⟩
      have : c = d := UInt8.toNat_inj.1 (by exact_mod_cast he)
      exact this ▸ hd
    · intro h; exact ⟨c, h, rfl⟩
  rw [hm]
  unfold idxB firstIdx
  have hsz : (ByteArray.mk o.toArray).size = o.length := by simp [ByteArray.size]
  have hget : ∀ i, i < o.length → (ByteArray.mk o.toArray)[i]! = o[i]! := fun i hi => by
    simp [getElem!_def, ByteArray.getElem?_lt', hsz, hi]
    rfl
  rw [hsz]
  cases hf : (List.range o.length).find? fun i => (ByteArray.mk o.toArray)[i]! == c with
  | some i =>
    have h1 := List.find?_some hf
    have h2 := List.mem_range.1 (List.mem_of_find?_eq_some hf)
    rw [hget i h2] at h1
    have h3 : c ∈ o := by
      have : o[i]! = c := by simpa using h1
      rw [← this, getElem!_pos o i h2]
      exact List.getElem_mem h2
    simp [h3]
  | none =>
    have h1 := List.find?_eq_none.1 hf
    have h3 : ¬ c ∈ o := fun hm => by
      obtain ⟨i, hi, he⟩ := List.getElem_of_mem hm
      have := h1 i (List.mem_range.2 hi)
      rw [hget i hi, getElem!_pos o i hi, he] at this
      simp at this
    simp [h3]
theorem hasB_eq (s o : Str) : hasB s o = l3Bytes s o := by
  unfold hasB l3Bytes
  congr 1
  funext c
  rw [idxB_neg]
  cases lowDig c <;> simp
theorem goodKey_eq (s : Str) : goodKey s = l3Key s := by unfold goodKey l3Key; rw [hasB_eq]
theorem bytesLess_irrefl : ∀ a : Str, Op.bytesLess a a = false
  | [] => rfl
  | a :: x => by simp [Op.bytesLess, bytesLess_irrefl x]
theorem bytesLess_tri : ∀ a b : Str, Op.bytesLess a b = !(Op.bytesLess b a || b == a)
  | [], [] => rfl
  | [], _ :: _ => rfl
  | _ :: _, [] => rfl
  | a :: x, b :: y => by
    have ih := bytesLess_tri x y
    simp only [Op.bytesLess]
    by_cases hab : a = b
    · subst hab
      simp [ih]
    · have h1 : (a == b) = false := by simpa using hab
      have h2 : (b == a) = false := by simpa using fun h => hab h.symm
      have h3 : (b :: y == a :: x) = false := by simp [h2]
      simp only [h1, h2, h3, Bool.false_and, Bool.or_false]
      rw [Bool.eq_iff_iff]
      simp only [decide_eq_true_eq, Bool.not_eq_true', decide_eq_false_iff_not, UInt8.not_lt]
      constructor
      · exact UInt8.le_of_lt
      · exact fun h => UInt8.lt_of_le_of_ne h hab
end Go.M

set_option linter.unusedVariables false
namespace Go.M
def adj {α : Type} (p : α → α → Bool) : List α → Bool
  | [] => true
  | [_] => true
  | x :: y :: l => p x y && adj p (y :: l)
theorem drop_two {α : Type} {l : List α} {k : Nat} {x y : α} (hy : l[k]? = some y) (hx : l[k + 1]? = some x) : l.drop k = y :: x :: l.drop (k + 2) := by
  rw [Go.AV.drop_some hy, Go.AV.drop_some hx]
theorem adj_step {α : Type} {p : α → α → Bool} {l : List α} {i : Nat} {x y : α} (hx : l[i]? = some x) (hy : l[i - 1]? = some y) (h : 0 < i → p y x = true) : adj p (l.drop (i - 1)) = adj p (l.drop (i + 1 - 1)) := by
  cases i with
  | zero => rfl
  | succ k =>
    simp only [Nat.add_sub_cancel] at *
    rw [drop_two hy hx, Go.AV.drop_some hx, adj, h (by omega), Bool.true_and]
theorem adj_stop {α : Type} {p : α → α → Bool} {l : List α} {i : Nat} {x y : α} (hx : l[i]? = some x) (hy : l[i - 1]? = some y) (h0 : 0 < i) (h : p y x = false) : adj p (l.drop (i - 1)) = false := by
  cases i with
  | zero => omega
  | succ k =>
    simp only [Nat.add_sub_cancel] at *
    rw [drop_two hy hx, adj, h, Bool.false_and]
theorem adj_end {α : Type} {p : α → α → Bool} {l : List α} {i : Nat} (h : l.length ≤ i) : adj p (l.drop (i - 1)) = true := by
  have hl : (l.drop (i - 1)).length ≤ 1 := by rw [List.length_drop]; omega
  match hd : l.drop (i - 1), hl with
  | [], _ => rfl
  | [x], _ => rfl
def isTime (t : Int) : Bool := within t 1 100000
def isStored (val : Str) (gone : Bool) : Bool := goodVal val && !(gone && val != [])
def l3Val (s : Str) : Bool := decide ((s.length : Int) ≤ 24) && l3Bytes s [46, 45, 44, 95]
def l3Write (key val : Str) (gone : Bool) : Bool := l3Key key && l3Val val && (!gone || val == [])
theorem goodVal_eq (s : Str) : goodVal s = l3Val s := by unfold goodVal l3Val; rw [hasB_eq]
theorem isStored_eq (s : Str) (g : Bool) : isStored s g = (l3Val s && (!g || s == [])) := by
  unfold isStored; rw [goodVal_eq]; cases g <;> simp [bne]
end Go.M

set_option linter.unusedVariables false
namespace Go.M
theorem all_step {α : Type} {p : α → Bool} {l : List α} {i : Nat} {x : α} (hx : l[i]? = some x) (h : p x = true) : (l.drop i).all p = (l.drop (i + 1)).all p := by
  rw [Go.AV.drop_some hx, List.all_cons, h, Bool.true_and]
theorem all_stop {α : Type} {p : α → Bool} {l : List α} {i : Nat} {x : α} (hx : l[i]? = some x) (h : p x = false) : (l.drop i).all p = false := by
  rw [Go.AV.drop_some hx, List.all_cons, h, Bool.false_and]
theorem all_end {α : Type} {p : α → Bool} {l : List α} {i : Nat} (h : l.length ≤ i) : (l.drop i).all p = true := by
  rw [List.drop_eq_nil_of_le h]; rfl
end Go.M

set_option linter.unusedVariables false
set_option linter.unusedSimpArgs false
namespace Go.M
theorem take_map_succ {α β : Type} {f : α → β} {l : List α} {i : Nat} {x : α} (h : l[i]? = some x) : (l.take i).map f ++ [f x] = (l.take (i + 1)).map f := by
  rw [List.take_add_one, h]; simp
def areRising (l : List Str) : Bool := l.all goodKey && adj Op.bytesLess l
def wKeys (l : List TWrite) : List Str := l.map TWrite.Key
def goodWrites (l : List TWrite) : Bool := decide ((l.length : Int) ≤ 24) && areRising (wKeys l) && !(l.any fun w => !isStored w.Val w.Gone)
def wLess (a b : TWrite) : Bool := Op.bytesLess a.Key b.Key
def wGood (w : TWrite) : Bool := l3Write w.Key w.Val w.Gone
def l3Writes (l : List TWrite) : Bool := (l.all wGood && adj wLess l) && decide ((l.length : Int) ≤ 24)
theorem adj_map {α β : Type} (f : α → β) (p : β → β → Bool) : ∀ l : List α, adj p (l.map f) = adj (fun a b => p (f a) (f b)) l
  | [] => rfl
  | [_] => rfl
  | x :: y :: l => by
    have := adj_map f p (y :: l)
    simp only [List.map_cons, adj] at *
    rw [this]
theorem goodWrites_eq (l : List TWrite) : goodWrites l = l3Writes l := by
  unfold goodWrites l3Writes areRising wKeys
  rw [adj_map, List.all_map, List.not_any_eq_all_not]
  have h2 : l.all wGood = ((l.all (goodKey ∘ TWrite.Key)) && l.all fun w => l3Val w.Val && (!w.Gone || w.Val == [])) := by
    induction l with
    | nil => rfl
    | cons w l ih =>
      simp only [List.all_cons, ih, wGood, l3Write, Function.comp, goodKey_eq, Bool.and_assoc]
      cases l3Key w.Key <;> cases l3Val w.Val <;> cases (!w.Gone || w.Val == []) <;> simp only [Bool.true_and, Bool.and_true, Bool.false_and, Bool.and_false]
  have h1 : (l.all fun w => !!isStored w.Val w.Gone) = l.all fun w => l3Val w.Val && (!w.Gone || w.Val == []) := by
    congr 1; funext w; rw [Bool.not_not, isStored_eq]
  rw [h1, h2]
  show _ = _
  have h3 : adj (fun a b => Op.bytesLess a.Key b.Key) l = adj wLess l := rfl
  rw [h3]
  cases l.all (goodKey ∘ TWrite.Key) <;> cases adj wLess l <;> cases decide ((l.length : Int) ≤ 24) <;> cases (l.all fun w => l3Val w.Val && (!w.Gone || w.Val == [])) <;> rfl
end Go.M

set_option linter.unusedVariables false
set_option linter.unusedSimpArgs false
namespace Go.M
def numB (n : Nat) : Str := if h : 128 ≤ n then UInt8.ofNat (n % 128 + 128) :: numB (n / 128) else [UInt8.ofNat n]
termination_by n
decreasing_by omega
theorem numB_small {n : Nat} (h : n < 128) : numB n = [UInt8.ofNat n] := by rw [numB, dif_neg (by omega)]
theorem numB_big {n : Nat} (h : 128 ≤ n) : numB n = UInt8.ofNat (n % 128 + 128) :: numB (n / 128) := by rw [numB, dif_pos h]
theorem u8_nat {n : Nat} (h : n < 256) : (UInt8.ofNat n).toNat = n := by rw [UInt8.toNat_ofNat']; exact Nat.mod_eq_of_lt h
def vpre : Str → Option Str
  | [] => none
  | b :: s => if b.toNat < 128 then some [b] else (vpre s).map (b :: ·)
def vval : Str → Nat
  | [] => 0
  | b :: s => b.toNat % 128 + 128 * vval s
def numP (s : Str) : Option (Nat × Nat) := match vpre s with
  | none => none
  | some p => if vval p ≤ 1000000000 ∧ numB (vval p) = p then some (vval p, p.length) else none
def Cont (s : Str) : Prop := ∀ b ∈ s, 128 ≤ b.toNat
theorem vpre_cont : ∀ {p : Str} {s : Str}, Cont p → vpre (p ++ s) = (vpre s).map (p ++ ·)
  | [], s, _ => by rw [List.nil_append]; cases vpre s <;> rfl
  | b :: p, s, h => by
    have hb := h b List.mem_cons_self
    show (if b.toNat < 128 then some [b] else (vpre (p ++ s)).map (b :: ·)) = _
    rw [if_neg (by omega), vpre_cont fun c hc => h c (List.mem_cons_of_mem _ hc), Option.map_map]
    rfl
theorem vpre_stop {p : Str} {b : UInt8} {s : Str} (h : Cont p) (hb : b.toNat < 128) : vpre (p ++ b :: s) = some (p ++ [b]) := by
  rw [vpre_cont h]
  show ((if b.toNat < 128 then some [b] else (vpre s).map (b :: ·)).map (p ++ ·)) = _
  rw [if_pos hb]; rfl
theorem vpre_none {p : Str} (h : Cont p) : vpre p = none := by
  have := vpre_cont (s := []) h
  rw [List.append_nil] at this; exact this
theorem vval_app : ∀ (p s : Str), vval (p ++ s) = vval p + 128 ^ p.length * vval s
  | [], s => by simp [vval]
  | b :: p, s => by
    show b.toNat % 128 + 128 * vval (p ++ s) = b.toNat % 128 + 128 * vval p + 128 ^ (p.length + 1) * vval s
    rw [vval_app p s, Nat.mul_add, Nat.pow_succ, ← Nat.mul_assoc, Nat.mul_comm (128 ^ p.length) 128]; omega
theorem vval_snoc (p : Str) (b : UInt8) : vval (p ++ [b]) = vval p + b.toNat % 128 * 128 ^ p.length := by
  rw [vval_app]; show vval p + 128 ^ p.length * (b.toNat % 128 + 128 * 0) = _; rw [Nat.mul_zero, Nat.add_zero, Nat.mul_comm]
theorem numB_form (n : Nat) : ∃ (p : Str) (b : UInt8), numB n = p ++ [b] ∧ Cont p ∧ b.toNat < 128 := by
  induction n using Nat.strongRecOn with
  | _ n ih =>
    rcases Nat.lt_or_ge n 128 with h | h
    · exact ⟨[], _, numB_small h, fun b hb => by simp at hb, by rw [u8_nat (by omega)]; exact h⟩
    · obtain ⟨p, b, h1, h2, h3⟩ := ih (n / 128) (by omega)
      refine ⟨UInt8.ofNat (n % 128 + 128) :: p, b, by rw [numB_big h, h1]; rfl, fun c hc => ?_, h3⟩
      rcases List.mem_cons.1 hc with rfl | hc
      · rw [u8_nat (by omega)]; omega
      · exact h2 c hc
theorem vpre_numB (n : Nat) (s : Str) : vpre (numB n ++ s) = some (numB n) := by
  obtain ⟨p, b, h1, h2, h3⟩ := numB_form n
  rw [h1, List.append_assoc]
  exact vpre_stop h2 h3
theorem vval_numB (n : Nat) : vval (numB n) = n := by
  induction n using Nat.strongRecOn with
  | _ n ih =>
    rcases Nat.lt_or_ge n 128 with h | h
    · rw [numB_small h]; show (UInt8.ofNat n).toNat % 128 + 128 * 0 = n; rw [u8_nat (by omega)]; omega
    · rw [numB_big h]
      show (UInt8.ofNat (n % 128 + 128)).toNat % 128 + 128 * vval (numB (n / 128)) = n
      rw [u8_nat (by omega), ih (n / 128) (by omega)]; omega
theorem numB_pos (n : Nat) : 1 ≤ (numB n).length := by
  obtain ⟨p, b, h1, _⟩ := numB_form n
  rw [h1]; simp
theorem numB_len {k : Nat} : ∀ {n : Nat}, n < 128 ^ k → 1 ≤ k → (numB n).length ≤ k := by
  induction k with
  | zero => intro n _ h; omega
  | succ k ih =>
    intro n h _
    rcases Nat.lt_or_ge n 128 with h1 | h1
    · rw [numB_small h1]; simp
    · rw [numB_big h1, List.length_cons]
      have hk : 1 ≤ k := by
        rcases Nat.eq_zero_or_pos k with h0 | h0
        · subst h0; simp at h; omega
        · exact h0
      have := ih (n := n / 128) (by rw [Nat.pow_succ] at h; omega) hk
      omega
theorem numB_len5 {n : Nat} (h : n ≤ 1000000000) : (numB n).length ≤ 5 := numB_len (k := 5) (by omega) (by decide)
theorem numP_numB {n : Nat} (h : n ≤ 1000000000) (s : Str) : numP (numB n ++ s) = some (n, (numB n).length) := by
  unfold numP
  rw [vpre_numB]
  simp only [vval_numB]
  rw [if_pos ⟨h, trivial⟩]
theorem vpre_split : ∀ {s p : Str}, vpre s = some p → ∃ q b t, p = q ++ [b] ∧ s = p ++ t ∧ Cont q ∧ b.toNat < 128
  | [], p, h => by cases h
  | c :: s, p, h => by
    unfold vpre at h
    split at h
    · rename_i hc
      injection h with h; subst h
      exact ⟨[], c, s, rfl, rfl, fun b hb => by simp at hb, hc⟩
    · rename_i hc
      cases hs : vpre s with
      | none => rw [hs] at h; cases h
      | some p' =>
        rw [hs] at h
        injection h with h; subst h
        obtain ⟨q, b, t, h1, h2, h3, h4⟩ := vpre_split hs
        refine ⟨c :: q, b, t, by rw [h1]; rfl, by rw [h2]; rfl, fun x hx => ?_, h4⟩
        rcases List.mem_cons.1 hx with rfl | hx
        · omega
        · exact h3 x hx
theorem numP_some {s : Str} {n k : Nat} (h : numP s = some (n, k)) : n ≤ 1000000000 ∧ k = (numB n).length ∧ ∃ t, s = numB n ++ t := by
  unfold numP at h
  cases hs : vpre s with
  | none => rw [hs] at h; cases h
  | some p =>
    rw [hs] at h
    simp only at h
    split at h
    · rename_i hh
      injection h with h
      injection h with h1 h2
      obtain ⟨q, b, t, g1, g2, _⟩ := vpre_split hs
      subst h1
      exact ⟨hh.1, by rw [hh.2, h2], t, by rw [hh.2]; exact g2⟩
    · cases h
theorem numP_end {p : Str} (h : Cont p) : numP p = none := by unfold numP; rw [vpre_none h]
theorem numP_stop {p : Str} {b : UInt8} {s : Str} (h : Cont p) (hb : b.toNat < 128) : numP (p ++ b :: s) = if vval (p ++ [b]) ≤ 1000000000 ∧ numB (vval (p ++ [b])) = p ++ [b] then some (vval (p ++ [b]), p.length + 1) else none := by
  unfold numP; rw [vpre_stop h hb]
  simp only [List.length_append, List.length_cons, List.length_nil, Nat.zero_add]
theorem numP_great {p : Str} {s : Str} (h : Cont p) (hv : 1000000000 < vval p) : numP (p ++ s) = none := by
  unfold numP
  rw [vpre_cont h]
  cases vpre s with
  | none => rfl
  | some q =>
    simp only [Option.map_some]
    rw [if_neg]
    intro hc
    have := hc.1
    rw [vval_app] at this
    omega
theorem numP_long {p : Str} {s : Str} (h : Cont p) (hl : 5 ≤ p.length) : numP (p ++ s) = none := by
  unfold numP
  rw [vpre_cont h]
  cases hs : vpre s with
  | none => rfl
  | some q =>
    simp only [Option.map_some]
    rw [if_neg]
    intro hc
    obtain ⟨q', b, t, h1, _⟩ := vpre_split hs
    have h2 := numB_len5 hc.1
    rw [hc.2, h1] at h2
    simp only [List.length_append, List.length_cons, List.length_nil] at h2
    omega
theorem cont_ne {p : Str} (h : Cont p) (n : Nat) : numB n ≠ p := by
  intro hc
  obtain ⟨q, b, h1, _, h3⟩ := numB_form n
  have := h b (by rw [← hc, h1]; simp)
  omega
theorem cont_snoc {p : Str} {b : UInt8} (h : Cont p) (hb : 128 ≤ b.toNat) : Cont (p ++ [b]) := fun c hc => by
  rcases List.mem_append.1 hc with hc | hc
  · exact h c hc
  · rw [List.mem_singleton.1 hc]; exact hb
structure TSrc where
  at' : Nat
  bad : Bool
open Go.AV in
def srcC (b : Str) (s : TSrc) : List AV := [AV.str b, AV.int s.at', AV.bool s.bad]
def numA (b : Str) (s : TSrc) : Option (Nat × Nat) := if s.bad = true then none else numP (b.drop s.at')
def NumOk (b : Str) (s : TSrc) (x : TSrc × Nat) : Prop := (s.at' ≤ x.1.at' ∧ x.1.at' ≤ b.length) ∧ x.2 ≤ 1000000000 ∧ match numA b s with
  | some (n, k) => x = (⟨s.at' + k, false⟩, n)
  | none => x.1.bad = true ∧ x.2 = 0
def textP (s : Str) : Option (Str × Nat) := match numP s with
  | none => none
  | some (n, k) => if n ≤ 60 ∧ k + n ≤ s.length then some ((s.drop k).take n, k + n) else none
def textA (b : Str) (s : TSrc) : Option (Str × Nat) := if s.bad = true then none else textP (b.drop s.at')
def TextOk (b : Str) (s : TSrc) (x : TSrc × Str) : Prop := (s.at' ≤ x.1.at' ∧ x.1.at' ≤ b.length) ∧ x.2.length ≤ 60 ∧ match textA b s with
  | some (t, k) => x = (⟨s.at' + k, false⟩, t)
  | none => x.1.bad = true ∧ x.2 = []
def textB (s : Str) : Str := numB s.length ++ s
theorem textP_textB {t : Str} (h : t.length ≤ 60) (s : Str) : textP (textB t ++ s) = some (t, (textB t).length) := by
  unfold textP textB
  rw [List.append_assoc, numP_numB (by omega)]
  simp only [List.length_append]
  rw [if_pos ⟨h, by omega⟩, List.drop_left, List.take_left]
theorem textP_some {s t : Str} {k : Nat} (h : textP s = some (t, k)) : t.length ≤ 60 ∧ k = (textB t).length ∧ k ≤ s.length ∧ ∃ r, s = textB t ++ r := by
  unfold textP at h
  cases hn : numP s with
  | none => rw [hn] at h; cases h
  | some x =>
    obtain ⟨n, j⟩ := x
    rw [hn] at h
    simp only at h
    split at h
    · rename_i hh
      injection h with h
      injection h with h1 h2
      obtain ⟨g1, g2, r, g3⟩ := numP_some hn
      have hd : s.drop j = r := by rw [g3, g2, List.drop_left]
      rw [hd] at h1
      have hlr : n ≤ r.length := by rw [g3, List.length_append] at hh; omega
      have hl : t.length = n := by rw [← h1, List.length_take]; omega
      refine ⟨by omega, ?_, by omega, r.drop n, ?_⟩
      · unfold textB; rw [List.length_append, hl]; omega
      · unfold textB; rw [hl, ← h1, List.append_assoc, List.take_append_drop]; exact g3
    · cases h
def textsN : Nat → Str → Option (List Str × Nat)
  | 0, _ => some ([], 0)
  | n + 1, s => match textP s with
    | none => none
    | some (t, k) => (textsN n (s.drop k)).map fun r => (t :: r.1, k + r.2)
def textsP (s : Str) : Option (List Str × Nat) := match numP s with
  | none => none
  | some (n, k) => if n ≤ 40 then (textsN n (s.drop k)).map fun r => (r.1, k + r.2) else none
def textsA (b : Str) (s : TSrc) : Option (List Str × Nat) := if s.bad = true then none else textsP (b.drop s.at')
def textsB (l : List Str) : Str := numB l.length ++ (l.map textB).flatten
theorem textsN_textsB : ∀ {l : List Str} (s : Str), (∀ t ∈ l, t.length ≤ 60) → textsN l.length ((l.map textB).flatten ++ s) = some (l, (l.map textB).flatten.length)
  | [], s, _ => rfl
  | t :: l, s, h => by
    have hf : ((t :: l).map textB).flatten ++ s = textB t ++ ((l.map textB).flatten ++ s) := by rw [List.map_cons, List.flatten_cons, List.append_assoc]
    rw [hf, List.length_cons]
    unfold textsN
    rw [textP_textB (h t List.mem_cons_self)]
    simp only
    rw [List.drop_left, textsN_textsB s fun x hx => h x (List.mem_cons_of_mem _ hx)]
    simp
theorem textsP_textsB {l : List Str} (h : ∀ t ∈ l, t.length ≤ 60) (hl : l.length ≤ 40) (s : Str) : textsP (textsB l ++ s) = some (l, (textsB l).length) := by
  unfold textsP textsB
  rw [List.append_assoc, numP_numB (by omega)]
  simp only
  rw [if_pos hl, List.drop_left, textsN_textsB s h]
  simp [List.length_append]
theorem numOk_bad {b : Str} {s : TSrc} {x : TSrc × Nat} (h : NumOk b s x) (hb : x.1.bad = true) : numA b s = none := by
  obtain ⟨_, _, h3⟩ := h
  cases hn : numA b s with
  | none => rfl
  | some y => obtain ⟨n, k⟩ := y; rw [hn] at h3; simp only at h3; rw [h3] at hb; cases hb
theorem numOk_good {b : Str} {s : TSrc} {x : TSrc × Nat} (h : NumOk b s x) (hb : x.1.bad = false) : ∃ n k, numA b s = some (n, k) ∧ x = (⟨s.at' + k, false⟩, n) := by
  obtain ⟨_, _, h3⟩ := h
  cases hn : numA b s with
  | none => rw [hn] at h3; rw [h3.1] at hb; cases hb
  | some y => obtain ⟨n, k⟩ := y; rw [hn] at h3; exact ⟨n, k, rfl, h3⟩
theorem numOk_zero {b : Str} {s : TSrc} {x : TSrc × Nat} (h : NumOk b s x) (hb : x.1.bad = true) : x.2 = 0 := by
  have hn := numOk_bad h hb
  obtain ⟨_, _, h3⟩ := h
  rw [hn] at h3; exact h3.2
theorem textOk_good {b : Str} {s : TSrc} {x : TSrc × Str} (h : TextOk b s x) (hb : x.1.bad = false) : ∃ t k, textA b s = some (t, k) ∧ x = (⟨s.at' + k, false⟩, t) := by
  obtain ⟨_, _, h3⟩ := h
  cases hn : textA b s with
  | none => rw [hn] at h3; rw [h3.1] at hb; cases hb
  | some y => obtain ⟨n, k⟩ := y; rw [hn] at h3; exact ⟨n, k, rfl, h3⟩
def TextsOk (b : Str) (s : TSrc) (t : TSrc) (l : List Str) : Prop := (s.at' ≤ t.at' ∧ t.at' ≤ b.length) ∧ match textsA b s with
  | some (r, k) => t = ⟨s.at' + k, false⟩ ∧ l = r
  | none => t.bad = true
def takeR (b : Str) (s : TSrc) (n : Nat) : TSrc × Str := if (s.bad || decide ((b.length : Int) - (s.at' : Int) < (n : Int))) = true then (⟨s.at', true⟩, []) else (⟨s.at' + n, false⟩, (b.drop s.at').take n)
theorem takeR_bad {b : Str} {s : TSrc} {n : Nat} (h : s.bad = true) : takeR b s n = (⟨s.at', true⟩, []) := by unfold takeR; rw [if_pos (by rw [h]; rfl)]
theorem takeR_one {b : Str} {s : TSrc} (h : s.bad = false) (hs : s.at' ≤ b.length) : (b.drop s.at' = [] ∧ takeR b s 1 = (⟨s.at', true⟩, [])) ∨ ∃ c r, b.drop s.at' = c :: r ∧ takeR b s 1 = (⟨s.at' + 1, false⟩, [c]) := by
  have hl : (b.drop s.at').length = b.length - s.at' := List.length_drop
  unfold takeR
  rw [h, Bool.false_or]
  cases hd : b.drop s.at' with
  | nil =>
    rw [hd] at hl
    simp only [List.length_nil] at hl
    exact .inl ⟨rfl, by rw [if_pos (decide_eq_true (by omega))]⟩
  | cons c r =>
    rw [hd] at hl
    simp only [List.length_cons] at hl
    exact .inr ⟨c, r, rfl, by rw [if_neg (by rw [decide_eq_true_eq]; omega)]; rfl⟩
theorem textA_take {b : Str} {s : TSrc} {n k : Nat} (h : numA b s = some (n, k)) (hs : s.at' ≤ b.length) : textA b s = if n ≤ 60 ∧ k + n ≤ (b.drop s.at').length then some (((b.drop s.at').drop k).take n, k + n) else none := by
  unfold numA at h
  unfold textA textP
  cases hb : s.bad with
  | true => rw [hb] at h; cases h
  | false => rw [hb] at h; simp only [Bool.false_eq_true, if_false] at h ⊢; rw [h]
theorem textA_none {b : Str} {s : TSrc} (h : numA b s = none) : textA b s = none := by
  unfold numA at h
  unfold textA textP
  cases hb : s.bad with
  | true => rfl
  | false => rw [hb] at h; simp only [Bool.false_eq_true, if_false] at h ⊢; rw [h]
theorem textsA_num {b : Str} {s : TSrc} {n k : Nat} (h : numA b s = some (n, k)) : textsA b s = if n ≤ 40 then (textsN n ((b.drop s.at').drop k)).map (fun r => (r.1, k + r.2)) else none := by
  unfold numA at h
  unfold textsA textsP
  cases hb : s.bad with
  | true => rw [hb] at h; cases h
  | false => rw [hb] at h; simp only [Bool.false_eq_true, if_false] at h ⊢; rw [h]
theorem textsA_none {b : Str} {s : TSrc} (h : numA b s = none) : textsA b s = none := by
  unfold numA at h
  unfold textsA textsP
  cases hb : s.bad with
  | true => rfl
  | false => rw [hb] at h; simp only [Bool.false_eq_true, if_false] at h ⊢; rw [h]
def RunOk (b : Str) (s : TSrc) (t : TSrc) (l : List Str) (m : Nat) : Prop := (s.at' ≤ t.at' ∧ t.at' ≤ b.length) ∧ ((t.bad = true ∧ textsA b s = none) ∨ (t.bad = false ∧ textsA b s = (textsN m (b.drop t.at')).map fun r => (l ++ r.1, (t.at' - s.at') + r.2)))
theorem runOk_end {b : Str} {s t : TSrc} {l : List Str} (h : RunOk b s t l 0) : TextsOk b s t l := by
  obtain ⟨h1, h2⟩ := h
  refine ⟨h1, ?_⟩
  rcases h2 with ⟨h2, h3⟩ | ⟨h2, h3⟩
  · rw [h3]; exact h2
  · rw [h3]
    show t = ⟨s.at' + ((t.at' - s.at') + 0), false⟩ ∧ l = l ++ []
    refine ⟨?_, by rw [List.append_nil]⟩
    obtain ⟨ta, tb⟩ := t
    simp only at h2 h1
    rw [h2]
    show (⟨ta, false⟩ : TSrc) = ⟨s.at' + ((ta - s.at') + 0), false⟩
    rw [show s.at' + ((ta - s.at') + 0) = ta by omega]
theorem runOk_bad {b : Str} {s t : TSrc} {l : List Str} {m : Nat} (h : RunOk b s t l m) (hb : t.bad = true) : TextsOk b s t l := by
  obtain ⟨h1, h2⟩ := h
  refine ⟨h1, ?_⟩
  rcases h2 with ⟨h2, h3⟩ | ⟨h2, h3⟩
  · rw [h3]; exact h2
  · rw [h2] at hb; cases hb
theorem runOk_step {b : Str} {s t : TSrc} {l : List Str} {m : Nat} {x : TSrc × Str} (h : RunOk b s t l (m + 1)) (hb : t.bad = false) (hx : TextOk b t x) : RunOk b s x.1 (l ++ [x.2]) m := by
  obtain ⟨h1, h2⟩ := h
  have hxx := hx
  obtain ⟨g1, g2, g3⟩ := hx
  refine ⟨by omega, ?_⟩
  rcases h2 with ⟨h2, h3⟩ | ⟨h2, h3⟩
  · rw [h2] at hb; cases hb
  · have ht : textA b t = textP (b.drop t.at') := by unfold textA; rw [hb]; rfl
    cases hq : textP (b.drop t.at') with
    | none =>
      rw [ht, hq] at g3
      refine .inl ⟨g3.1, ?_⟩
      rw [h3]; unfold textsN; rw [hq]; rfl
    | some y =>
      obtain ⟨u, k⟩ := y
      rw [ht, hq] at g3
      simp only at g3
      subst g3
      refine .inr ⟨rfl, ?_⟩
      rw [h3]
      conv => lhs; unfold textsN
      rw [hq]
      simp only [Option.map_map, List.drop_drop]
      congr 1
      funext r
      simp only [Function.comp_apply, List.append_assoc, List.singleton_append]
      rw [show t.at' - s.at' + (k + r.2) = t.at' + k - s.at' + r.2 by omega]
theorem numP_over {p r : Str} {c : UInt8} (hcp : Cont p) (h : 1000000000 < vval (p ++ [c]) ∨ 5 ≤ p.length) : numP (p ++ c :: r) = none := by
  rcases Nat.lt_or_ge c.toNat 128 with hc | hc
  · rw [numP_stop hcp hc, if_neg]
    intro hh
    rcases h with h | h
    · omega
    · have h5 := numB_len5 hh.1
      rw [hh.2, List.length_append] at h5
      simp only [List.length_cons, List.length_nil] at h5
      omega
  · rcases h with h | h
    · have := numP_great (s := r) (cont_snoc hcp hc) h
      rwa [List.append_assoc] at this
    · exact numP_long hcp h
theorem vval_lt : ∀ (p : Str), vval p < 128 ^ p.length
  | [] => by decide
  | c :: p => by
    have := vval_lt p
    show c.toNat % 128 + 128 * vval p < 128 ^ (p.length + 1)
    rw [Nat.pow_succ]; omega
def oneR (b : Str) (s : TSrc) : TSrc × Nat := if (s.bad || decide ((b.length : Int) ≤ (s.at' : Int))) = true then (⟨s.at', true⟩, 0) else (⟨s.at' + 1, false⟩, (b.getD s.at' 0).toNat)
theorem oneR_bad {b : Str} {s : TSrc} (h : s.bad = true) : oneR b s = (⟨s.at', true⟩, 0) := by unfold oneR; rw [if_pos (by rw [h]; rfl)]
theorem oneR_one {b : Str} {s : TSrc} (h : s.bad = false) (hs : s.at' ≤ b.length) : (b.drop s.at' = [] ∧ oneR b s = (⟨s.at', true⟩, 0)) ∨ ∃ c r, b.drop s.at' = c :: r ∧ oneR b s = (⟨s.at' + 1, false⟩, c.toNat) := by
  have hl : (b.drop s.at').length = b.length - s.at' := List.length_drop
  unfold oneR
  rw [h, Bool.false_or]
  cases hd : b.drop s.at' with
  | nil =>
    rw [hd] at hl
    simp only [List.length_nil] at hl
    exact .inl ⟨rfl, by rw [if_pos (decide_eq_true (by omega))]⟩
  | cons c r =>
    rw [hd] at hl
    simp only [List.length_cons] at hl
    refine .inr ⟨c, r, rfl, ?_⟩
    rw [if_neg (by rw [decide_eq_true_eq]; omega)]
    have : b[s.at']? = some c := by
      have h9 : (b.drop s.at')[0]? = some c := by rw [hd]; rfl
      rwa [List.getElem?_drop, Nat.add_zero] at h9
    rw [List.getD_eq_getElem?_getD, this]; rfl
theorem runOk_start {b : Str} {s : TSrc} {x : TSrc × Nat} (h : NumOk b s x) (hn : x.2 ≤ 40) : RunOk b s x.1 [] x.2 := by
  refine ⟨h.1, ?_⟩
  cases hb : x.1.bad with
  | true => exact .inl ⟨rfl, textsA_none (numOk_bad h hb)⟩
  | false =>
    obtain ⟨n, k, h1, h2⟩ := numOk_good h hb
    subst h2
    refine .inr ⟨rfl, ?_⟩
    rw [textsA_num h1, if_pos hn, List.drop_drop]
    simp only [List.nil_append, Nat.add_sub_cancel_left]
theorem runOk_big {b : Str} {s : TSrc} {x : TSrc × Nat} (h : NumOk b s x) (hn : 40 < x.2) (m : Nat) : RunOk b s ⟨x.1.at', true⟩ [] m := by
  refine ⟨h.1, .inl ⟨rfl, ?_⟩⟩
  cases hb : x.1.bad with
  | true => have := numOk_zero h hb; omega
  | false =>
    obtain ⟨n, k, h1, h2⟩ := numOk_good h hb
    subst h2
    rw [textsA_num h1, if_neg (by simp only at hn; omega)]
theorem textsOk_bad {b : Str} {s t : TSrc} {l : List Str} (h : TextsOk b s t l) (hb : t.bad = true) : textsA b s = none := by
  obtain ⟨_, h2⟩ := h
  cases hn : textsA b s with
  | none => rfl
  | some y => obtain ⟨n, k⟩ := y; rw [hn] at h2; simp only at h2; rw [h2.1] at hb; cases hb
theorem textsOk_good {b : Str} {s t : TSrc} {l : List Str} (h : TextsOk b s t l) (hb : t.bad = false) : ∃ k, textsA b s = some (l, k) ∧ t = ⟨s.at' + k, false⟩ := by
  obtain ⟨_, h2⟩ := h
  cases hn : textsA b s with
  | none => rw [hn] at h2; rw [h2] at hb; cases hb
  | some y => obtain ⟨n, k⟩ := y; rw [hn] at h2; simp only at h2; rw [h2.2]; exact ⟨k, rfl, h2.1⟩
theorem textOk_s {b : Str} {s : TSrc} {x : TSrc × Nat} (hs : s.at' ≤ b.length) (h : NumOk b s x) :
    (((x.1.bad || decide ((60 : Int) < (x.2 : Int))) || decide ((b.length : Int) < (x.1.at' : Int) + (x.2 : Int))) = true → TextOk b s (⟨x.1.at', true⟩, [])) ∧
    (((x.1.bad || decide ((60 : Int) < (x.2 : Int))) || decide ((b.length : Int) < (x.1.at' : Int) + (x.2 : Int))) = false → TextOk b s (⟨x.1.at' + x.2, false⟩, (b.drop x.1.at').take x.2) ∧ x.1.bad = false ∧ x.1.at' + x.2 ≤ b.length ∧ x.2 ≤ 60) := by
  have h0 := h.1
  cases hb : x.1.bad with
  | true =>
    refine ⟨fun _ => ⟨h0, Nat.zero_le _, by rw [textA_none (numOk_bad h hb)]; exact ⟨rfl, rfl⟩⟩, fun hc => by simp at hc⟩
  | false =>
    obtain ⟨n, k, h1, h2⟩ := numOk_good h hb
    subst h2
    simp only at h0 ⊢
    have hl : (b.drop s.at').length = b.length - s.at' := List.length_drop
    have ht := textA_take h1 hs
    refine ⟨fun hc => ⟨h0, Nat.zero_le _, ?_⟩, fun hc => ?_⟩
    · rw [if_neg] at ht
      · rw [ht]; exact ⟨rfl, rfl⟩
      · intro hh
        simp only [Bool.false_or, Bool.or_eq_true, decide_eq_true_eq] at hc
        omega
    · simp only [Bool.false_or, Bool.or_eq_false_iff, decide_eq_false_iff_not] at hc
      rw [if_pos (by omega), List.drop_drop] at ht
      refine ⟨⟨⟨by show s.at' ≤ s.at' + k + n; omega, by show s.at' + k + n ≤ b.length; omega⟩, ?_, ?_⟩, by trivial, by omega, by omega⟩
      · show ((b.drop (s.at' + k)).take n).length ≤ 60
        rw [List.length_take]; omega
      · rw [ht]
        show ((⟨s.at' + k + n, false⟩ : TSrc), (b.drop (s.at' + k)).take n) = (⟨s.at' + (k + n), false⟩, (b.drop (s.at' + k)).take n)
        rw [Nat.add_assoc]
end Go.M

set_option linter.unusedVariables false
set_option linter.unusedSimpArgs false
namespace Go.M
def sumStep (n : Nat) (b : UInt8) : Nat := (31 * n + b.toNat + 1) % 16000057
def sumB (s : Str) : Nat := s.foldl sumStep 7
theorem sum_lt (s : Str) : ∀ n, n < 16000057 → s.foldl sumStep n < 16000057 := by
  induction s with
  | nil => intro n h; exact h
  | cons b s ih => intro n _; exact ih _ (Nat.mod_lt _ (by decide))
theorem sumB_lt (s : Str) : sumB s < 16000057 := sum_lt s 7 (by decide)
theorem sumB_next {s : Str} {i : Nat} {b : UInt8} (h : s[i]? = some b) : sumB (s.take (i + 1)) = sumStep (sumB (s.take i)) b := by
  unfold sumB; rw [List.take_add_one, h, List.foldl_append]; rfl
def threeB (n : Nat) : Str := [UInt8.ofNat (n / 65536), UInt8.ofNat (n / 256 % 256), UInt8.ofNat (n % 256)]
def sealB' (s : Str) : Str := s ++ threeB (sumB s)
theorem sealB_len (s : Str) : (sealB' s).length = s.length + 3 := by unfold sealB' threeB; simp
end Go.M

set_option linter.unusedVariables false
set_option linter.unusedSimpArgs false
namespace Go.M
open Go.AV
def isTxnR (n : Int) : Bool := within n 1 60
def bareR (r : TRec) : Bool := ((r.Lead == 0) && ((r.Reads.length : Int) == 0)) && ((r.Writes.length : Int) == 0)
def good1 (r : TRec) : Bool := (((((((isTxnR r.Txn && isTime r.Time) && within r.Lead 0 3) && decide ((r.Reads.length : Int) ≤ 8)) && areRising r.Reads) && decide ((r.Writes.length : Int) ≤ 8)) && goodWrites r.Writes) && decide (0 < (r.Reads.length : Int) + (r.Writes.length : Int))) && !r.Yes
def good2 (r : TRec) : Bool := (bareR r && isTxnR r.Txn) && ((r.Yes && isTime r.Time) || (!r.Yes && (r.Time == 0)))
def good4 (r : TRec) : Bool := ((bareR r && (r.Txn == 0)) && isTime r.Time) && !r.Yes
def goodRec (r : TRec) : Bool := if r.Kind = 1 then good1 r else if r.Kind = 2 ∨ r.Kind = 3 then good2 r else if r.Kind = 4 then good4 r else false
def l4Keys (l : List Str) : Bool := (l.all l3Key && adj Op.bytesLess l) && decide ((l.length : Int) ≤ 8)
def oddR (r : TRec) : Bool := (r.Kind != 1) && ((r.Lead != 0) || decide (0 < (r.Reads.length : Int) + (r.Writes.length : Int)))
def l4G1 (r : TRec) : Bool := ((((((within r.Txn 1 60 && within r.Time 1 100000) && within r.Lead 0 3) && l4Keys r.Reads) && l3Writes r.Writes) && within (r.Writes.length : Int) 0 8) && decide (0 < (r.Reads.length : Int) + (r.Writes.length : Int))) && !r.Yes
def l4G2 (r : TRec) : Bool := within r.Txn 1 60 && ((r.Yes && within r.Time 1 100000) || (!r.Yes && (r.Time == 0)))
def l4G4 (r : TRec) : Bool := (((r.Kind == 4) && (r.Txn == 0)) && within r.Time 1 100000) && !r.Yes
def l4Good (r : TRec) : Bool := if oddR r = true then false else if r.Kind = 1 then l4G1 r else if r.Kind = 2 ∨ r.Kind = 3 then l4G2 r else l4G4 r
theorem bare_odd {r : TRec} (h : r.Kind ≠ 1) : bareR r = !oddR r := by
  have hk : (r.Kind != 1) = true := by simpa using h
  unfold bareR oddR
  rw [hk, Bool.true_and, Bool.eq_iff_iff]
  simp only [Bool.and_eq_true, beq_iff_eq, Bool.not_eq_true', Bool.or_eq_false_iff, bne_eq_false_iff_eq, decide_eq_false_iff_not]
  omega
theorem keys_eq (l : List Str) : (decide ((l.length : Int) ≤ 8) && areRising l) = l4Keys l := by
  unfold areRising l4Keys
  rw [show l.all goodKey = l.all l3Key by congr 1; funext s; rw [goodKey_eq]]
  rw [Bool.and_comm]
theorem goodRec_eq (r : TRec) : goodRec r = l4Good r := by
  unfold goodRec l4Good
  by_cases h1 : r.Kind = 1
  · have ho : oddR r = false := by unfold oddR; rw [h1]; rfl
    rw [if_pos h1, ho, if_neg (by decide), if_pos h1]
    unfold good1 l4G1
    rw [← keys_eq, ← goodWrites_eq]
    have hw : within (r.Writes.length : Int) 0 8 = decide ((r.Writes.length : Int) ≤ 8) := by unfold within; simp
    rw [hw]
    unfold isTxnR isTime
    cases within r.Txn 1 60 <;> cases within r.Time 1 100000 <;> cases within r.Lead 0 3 <;> cases decide ((r.Reads.length : Int) ≤ 8) <;> cases areRising r.Reads <;> cases decide ((r.Writes.length : Int) ≤ 8) <;> cases goodWrites r.Writes <;> simp
  · have hb := bare_odd h1
    rw [if_neg h1, if_neg h1]
    by_cases h2 : r.Kind = 2 ∨ r.Kind = 3
    · rw [if_pos h2, if_pos h2]
      unfold good2 l4G2
      rw [hb]
      cases oddR r <;> simp [isTxnR, isTime]
    · rw [if_neg h2, if_neg h2]
      unfold l4G4
      by_cases h4 : r.Kind = 4
      · rw [if_pos h4]
        unfold good4
        rw [hb, h4]
        cases oddR r <;> simp [isTime]
      · rw [if_neg h4]
        have e4 : (r.Kind == 4) = false := by simpa using h4
        rw [e4]; cases oddR r <;> simp
structure GoodR (r : TRec) : Prop where
  kind : 1 ≤ r.Kind ∧ r.Kind ≤ 4
  txn : 0 ≤ r.Txn ∧ r.Txn ≤ 60
  time : 0 ≤ r.Time ∧ r.Time ≤ 100000
  lead : 0 ≤ r.Lead ∧ r.Lead ≤ 3
  reads : r.Reads.length ≤ 8 ∧ ∀ s ∈ r.Reads, l3Key s = true
  writes : r.Writes.length ≤ 8 ∧ ∀ w ∈ r.Writes, l3Key w.Key = true ∧ l3Val w.Val = true ∧ (w.Gone = true → w.Val = [])
theorem bareR_nil {r : TRec} (h : bareR r = true) : r.Lead = 0 ∧ r.Reads = [] ∧ r.Writes = [] := by
  unfold bareR at h
  simp only [Bool.and_eq_true, beq_iff_eq] at h
  exact ⟨h.1.1, List.eq_nil_of_length_eq_zero (by omega), List.eq_nil_of_length_eq_zero (by omega)⟩
theorem goodR {r : TRec} (h : goodRec r = true) : GoodR r := by
  unfold goodRec at h
  split at h
  · rename_i hk
    unfold good1 isTxnR isTime within at h
    simp only [Bool.and_eq_true, decide_eq_true_eq] at h
    obtain ⟨⟨⟨⟨⟨⟨⟨⟨h1, h2⟩, h3⟩, h4⟩, h5⟩, h6⟩, h7⟩, _⟩, _⟩ := h
    rw [goodWrites_eq] at h7
    unfold l3Writes at h7
    unfold areRising at h5
    simp only [Bool.and_eq_true, List.all_eq_true] at h5 h7
    refine ⟨by omega, by omega, by omega, by omega, ⟨by omega, fun s hs => by rw [← goodKey_eq]; exact h5.1 s hs⟩, ⟨by omega, fun w hw => ?_⟩⟩
    have := h7.1.1 w hw
    unfold wGood l3Write at this
    simp only [Bool.and_eq_true, Bool.or_eq_true, Bool.not_eq_true'] at this
    exact ⟨this.1.1, this.1.2, fun e => by rcases this.2 with g | g; rw [e] at g; cases g; simpa using g⟩
  · split at h
    · rename_i hk
      unfold good2 isTxnR isTime within at h
      simp only [Bool.and_eq_true, Bool.or_eq_true, decide_eq_true_eq, beq_iff_eq, Bool.not_eq_true'] at h
      obtain ⟨⟨h1, h2⟩, h3⟩ := h
      obtain ⟨l1, l2, l3⟩ := bareR_nil h1
      refine ⟨by omega, by omega, by omega, by omega, by rw [l2]; exact ⟨Nat.zero_le _, fun s hs => by cases hs⟩, by rw [l3]; exact ⟨Nat.zero_le _, fun s hs => by cases hs⟩⟩
    · split at h
      · rename_i hk
        unfold good4 isTime within at h
        simp only [Bool.and_eq_true, decide_eq_true_eq, beq_iff_eq, Bool.not_eq_true'] at h
        obtain ⟨⟨⟨h1, h2⟩, h3⟩, _⟩ := h
        obtain ⟨l1, l2, l3⟩ := bareR_nil h1
        refine ⟨by omega, by omega, by omega, by omega, by rw [l2]; exact ⟨Nat.zero_le _, fun s hs => by cases hs⟩, by rw [l3]; exact ⟨Nat.zero_le _, fun s hs => by cases hs⟩⟩
      · cases h
theorem l3KeyR_len {s : Str} (h : l3Key s = true) : s.length ≤ 12 := by
  unfold l3Key within at h
  simp only [Bool.and_eq_true, decide_eq_true_eq] at h
  have := h.1; omega
theorem l3ValR_len {s : Str} (h : l3Val s = true) : s.length ≤ 24 := by
  unfold l3Val at h
  simp only [Bool.and_eq_true, decide_eq_true_eq] at h
  have := h.1; omega
def flagB (b : Bool) : Str := if b = true then [1] else [0]
def writeB (w : TWrite) : Str := (textB w.Key ++ flagB w.Gone) ++ textB w.Val
def recHd (r : TRec) : Str := (((((numB r.Kind.toNat ++ numB r.Txn.toNat) ++ numB r.Time.toNat) ++ numB r.Lead.toNat) ++ flagB r.Yes) ++ textsB r.Reads) ++ numB r.Writes.length
def writesB (l : List TWrite) : Str := (l.map writeB).flatten
def recIn (r : TRec) : Str := recHd r ++ writesB r.Writes
def recB (r : TRec) : Str := sealB' (recIn r)
theorem flagB_len (b : Bool) : (flagB b).length = 1 := by unfold flagB; split <;> rfl
theorem writeB_len {w : TWrite} (h : l3Key w.Key = true ∧ l3Val w.Val = true) : (writeB w).length ≤ 39 ∧ 3 ≤ (writeB w).length := by
  have h1 := l3KeyR_len h.1
  have h2 := l3ValR_len h.2
  have h3 := numB_len (k := 1) (n := w.Key.length) (by omega) (by decide)
  have h4 := numB_len (k := 1) (n := w.Val.length) (by omega) (by decide)
  have h5 := numB_pos w.Key.length
  have h6 := numB_pos w.Val.length
  unfold writeB textB
  simp only [List.length_append, flagB_len]
  omega
theorem writesB_len : ∀ {l : List TWrite}, (∀ w ∈ l, l3Key w.Key = true ∧ l3Val w.Val = true ∧ (w.Gone = true → w.Val = [])) → (writesB l).length ≤ 39 * l.length
  | [], _ => Nat.le_refl _
  | w :: l, h => by
    have h1 := h w List.mem_cons_self
    have h2 := (writeB_len ⟨h1.1, h1.2.1⟩).1
    have h3 := writesB_len (l := l) fun x hx => h x (List.mem_cons_of_mem _ hx)
    show (writeB w ++ writesB l).length ≤ _
    rw [List.length_append, List.length_cons]; omega
theorem textsB_len8 {l : List Str} (h : l.length ≤ 8 ∧ ∀ s ∈ l, l3Key s = true) : (textsB l).length ≤ 105 := by
  have h1 := numB_len (k := 1) (n := l.length) (by omega) (by decide)
  have h2 : ∀ l : List Str, (∀ s ∈ l, l3Key s = true) → ((l.map textB).flatten).length ≤ 13 * l.length := by
    intro l
    induction l with
    | nil => intro _; simp
    | cons s l ih =>
      intro g
      have g1 := l3KeyR_len (g s List.mem_cons_self)
      have g2 := ih fun x hx => g x (List.mem_cons_of_mem _ hx)
      have g3 := numB_len (k := 1) (n := s.length) (by omega) (by decide)
      have g4 : (textB s).length = (numB s.length).length + s.length := by unfold textB; rw [List.length_append]
      rw [List.map_cons, List.flatten_cons, List.length_append, List.length_cons]
      omega
  have h3 := h2 l h.2
  unfold textsB; rw [List.length_append]; omega
theorem recHd_len {r : TRec} (h : GoodR r) : (recHd r).length ≤ 120 := by
  have h1 := numB_len (k := 1) (n := r.Kind.toNat) (by have := h.kind; omega) (by decide)
  have h2 := numB_len (k := 1) (n := r.Txn.toNat) (by have := h.txn; omega) (by decide)
  have h3 := numB_len (k := 3) (n := r.Time.toNat) (by have := h.time; omega) (by decide)
  have h4 := numB_len (k := 1) (n := r.Lead.toNat) (by have := h.lead; omega) (by decide)
  have h5 := textsB_len8 h.reads
  have h6 := numB_len (k := 1) (n := r.Writes.length) (by have := h.writes.1; omega) (by decide)
  unfold recHd
  simp only [List.length_append, flagB_len]; omega
theorem recIn_len {r : TRec} (h : GoodR r) : (recIn r).length ≤ 440 := by
  have h1 := recHd_len h
  have h2 := writesB_len h.writes.2
  have h3 := h.writes.1
  unfold recIn; rw [List.length_append]; omega
theorem recB_len {r : TRec} (h : GoodR r) : (recB r).length ≤ 443 := by
  have := recIn_len h
  unfold recB; rw [sealB_len]; omega
theorem num_cut {n m : Nat} {s t : Str} (hn : n ≤ 1000000000) (hm : m ≤ 1000000000) (h : numB n ++ s = numB m ++ t) : n = m ∧ s = t := by
  have h1 := numP_numB hn s
  rw [h, numP_numB hm t] at h1
  injection h1 with h1; injection h1 with h1 _
  subst h1
  exact ⟨rfl, List.append_cancel_left h⟩
theorem flag_cut {a b : Bool} {s t : Str} (h : flagB a ++ s = flagB b ++ t) : a = b ∧ s = t := by
  cases a <;> cases b <;> simp [flagB] at h <;> simp [h]
theorem text_cut {a b s t : Str} (ha : a.length ≤ 60) (hb : b.length ≤ 60) (h : textB a ++ s = textB b ++ t) : a = b ∧ s = t := by
  have h1 := textP_textB ha s
  rw [h, textP_textB hb t] at h1
  injection h1 with h1; injection h1 with h1 _
  subst h1
  exact ⟨rfl, List.append_cancel_left h⟩
theorem texts_cut {a b : List Str} {s t : Str} (ha : (∀ x ∈ a, x.length ≤ 60) ∧ a.length ≤ 40) (hb : (∀ x ∈ b, x.length ≤ 60) ∧ b.length ≤ 40) (h : textsB a ++ s = textsB b ++ t) : a = b ∧ s = t := by
  have h1 := textsP_textsB ha.1 ha.2 s
  rw [h, textsP_textsB hb.1 hb.2 t] at h1
  injection h1 with h1; injection h1 with h1 _
  subst h1
  exact ⟨rfl, List.append_cancel_left h⟩
theorem writes_cut : ∀ {a b : List TWrite}, a.length = b.length → (∀ w ∈ a, w.Key.length ≤ 60 ∧ w.Val.length ≤ 60) → (∀ w ∈ b, w.Key.length ≤ 60 ∧ w.Val.length ≤ 60) → writesB a = writesB b → a = b
  | [], [], _, _, _, _ => rfl
  | [], _ :: _, h, _, _, _ => by simp at h
  | _ :: _, [], h, _, _, _ => by simp at h
  | x :: a, y :: b, hl, ha, hb, h => by
    have h0 : writeB x ++ writesB a = writeB y ++ writesB b := h
    unfold writeB at h0
    simp only [List.append_assoc] at h0
    obtain ⟨e1, h1⟩ := text_cut (ha x List.mem_cons_self).1 (hb y List.mem_cons_self).1 h0
    obtain ⟨e2, h2⟩ := flag_cut h1
    obtain ⟨e3, h3⟩ := text_cut (ha x List.mem_cons_self).2 (hb y List.mem_cons_self).2 h2
    have e4 := writes_cut (by simpa using hl) (fun w hw => ha w (List.mem_cons_of_mem _ hw)) (fun w hw => hb w (List.mem_cons_of_mem _ hw)) h3
    rw [e4]
    congr 1
    cases x; cases y
    simp_all
theorem good_keys {r : TRec} (h : GoodR r) : (∀ x ∈ r.Reads, x.length ≤ 60) ∧ r.Reads.length ≤ 40 := ⟨fun x hx => by have := l3KeyR_len (h.reads.2 x hx); omega, by have := h.reads.1; omega⟩
theorem good_ws {r : TRec} (h : GoodR r) : ∀ w ∈ r.Writes, w.Key.length ≤ 60 ∧ w.Val.length ≤ 60 := fun w hw => by
  have := h.writes.2 w hw
  have h1 := l3KeyR_len this.1
  have h2 := l3ValR_len this.2.1
  omega
theorem recIn_inj {a b : TRec} (ha : GoodR a) (hb : GoodR b) (h : recIn a = recIn b) : a = b := by
  unfold recIn recHd at h
  simp only [List.append_assoc] at h
  have a1 := ha.kind; have a2 := ha.txn; have a3 := ha.time; have a4 := ha.lead; have a5 := ha.writes.1
  have b1 := hb.kind; have b2 := hb.txn; have b3 := hb.time; have b4 := hb.lead; have b5 := hb.writes.1
  obtain ⟨e1, h⟩ := num_cut (by omega) (by omega) h
  obtain ⟨e2, h⟩ := num_cut (by omega) (by omega) h
  obtain ⟨e3, h⟩ := num_cut (by omega) (by omega) h
  obtain ⟨e4, h⟩ := num_cut (by omega) (by omega) h
  obtain ⟨e5, h⟩ := flag_cut h
  obtain ⟨e6, h⟩ := texts_cut (good_keys ha) (good_keys hb) h
  obtain ⟨e7, h⟩ := num_cut (by omega) (by omega) h
  have e8 := writes_cut e7 (good_ws ha) (good_ws hb) h
  cases a; cases b
  dsimp only at *
  have := (show _ = _ from e5); have := e6; have := e8
  simp only [TRec.mk.injEq]
  exact ⟨by omega, by omega, by omega, by omega, e6, e8, e5⟩
theorem seal_inj {s t : Str} (h : sealB' s = sealB' t) : s = t := by
  have hl := congrArg List.length h
  rw [sealB_len, sealB_len] at hl
  have h1 := congrArg (List.take s.length) h
  unfold sealB' at h1
  rw [List.take_left, show s.length = t.length by omega, List.take_left] at h1
  exact h1
theorem recB_inj {a b : TRec} (ha : goodRec a = true) (hb : goodRec b = true) (h : recB a = recB b) : a = b := recIn_inj (goodR ha) (goodR hb) (seal_inj h)
def emptyR : TRec := ⟨0, 0, 0, 0, [], [], false⟩
open Classical in
noncomputable def readRecR (b : Str) : TRec × Bool := if h : ∃ r, goodRec r = true ∧ recB r = b then (Classical.choose h, true) else (emptyR, false)
theorem readRecR_of {r : TRec} (h : goodRec r = true) : readRecR (recB r) = (r, true) := by
  have hx : ∃ q, goodRec q = true ∧ recB q = recB r := ⟨r, h, rfl⟩
  unfold readRecR
  rw [dif_pos hx]
  have h2 := Classical.choose_spec hx
  rw [recB_inj h2.1 h h2.2]
theorem readRecR_no {b : Str} (h : ¬ (goodRec (readRecR b).1 = true ∧ recB (readRecR b).1 = b)) : readRecR b = (emptyR, false) := by
  unfold readRecR
  by_cases hx : ∃ r, goodRec r = true ∧ recB r = b
  · exfalso; apply h
    unfold readRecR
    rw [dif_pos hx]
    exact Classical.choose_spec hx
  · rw [dif_neg hx]
def recBytesR (r : TRec) : Str × Bool := if goodRec r = true then (recB r, true) else ([], false)
theorem writesB_next {l : List TWrite} {i : Nat} {w : TWrite} (h : l[i]? = some w) : writesB (l.take (i + 1)) = writesB (l.take i) ++ writeB w := by
  unfold writesB
  rw [List.take_add_one, h]; simp
theorem writesB_take {l : List TWrite} (h : l.length ≤ 8 ∧ ∀ w ∈ l, l3Key w.Key = true ∧ l3Val w.Val = true ∧ (w.Gone = true → w.Val = [])) (i : Nat) : (writesB (l.take i)).length ≤ 312 := by
  have h1 := writesB_len (l := l.take i) fun w hw => h.2 w (List.mem_of_mem_take hw)
  have h2 : (l.take i).length ≤ 8 := by rw [List.length_take]; omega
  have : 39 * (l.take i).length ≤ 39 * 8 := Nat.mul_le_mul_left _ h2
  omega
def sealOk (b : Str) : Bool := within (b.length : Int) 3 6000 && (sealB' (b.take (b.length - 3)) == b)
def openR (b : Str) : Str × Bool := if sealOk b = true then (b.take (b.length - 3), true) else ([], false)
theorem openR_cases (b : Str) : openR b = ([], false) ∨ (openR b = (b.take (b.length - 3), true) ∧ b.length ≤ 6000 ∧ sealB' (b.take (b.length - 3)) = b) := by
  unfold openR
  split
  · rename_i h
    unfold sealOk within at h
    simp at h
    exact .inr ⟨rfl, by omega, h.2⟩
  · exact .inl rfl
theorem openR_seal {s : Str} (h : s.length ≤ 5997) : openR (sealB' s) = (s, true) := by
  have hl := sealB_len s
  have ht : (sealB' s).take ((sealB' s).length - 3) = s := by
    rw [hl, Nat.add_sub_cancel]; unfold sealB'; exact List.take_left
  unfold openR
  rw [ht, if_pos]
  unfold sealOk within
  rw [ht]
  simp; omega
def AtS (b : Str) (s : TSrc) (rest : Str) : Prop := s.bad = false ∧ b.drop s.at' = rest
theorem at_num {b : Str} {s : TSrc} {x : TSrc × Nat} {n : Nat} {t : Str} (h : AtS b s (numB n ++ t)) (hn : n ≤ 1000000000) (hx : NumOk b s x) : AtS b x.1 t ∧ x.2 = n := by
  have e : numA b s = some (n, (numB n).length) := by unfold numA; rw [h.1, h.2]; exact numP_numB hn t
  have h2 := hx.2.2
  rw [e] at h2
  have h3 : x = (⟨s.at' + (numB n).length, false⟩, n) := h2
  rw [h3]
  refine ⟨⟨rfl, ?_⟩, rfl⟩
  show b.drop (s.at' + (numB n).length) = t
  rw [← List.drop_drop, h.2, List.drop_left]
theorem at_text {b : Str} {s : TSrc} {x : TSrc × Str} {a t : Str} (h : AtS b s (textB a ++ t)) (ha : a.length ≤ 60) (hx : TextOk b s x) : AtS b x.1 t ∧ x.2 = a := by
  have e : textA b s = some (a, (textB a).length) := by unfold textA; rw [h.1, h.2]; exact textP_textB ha t
  have h2 := hx.2.2
  rw [e] at h2
  have h3 : x = (⟨s.at' + (textB a).length, false⟩, a) := h2
  rw [h3]
  refine ⟨⟨rfl, ?_⟩, rfl⟩
  show b.drop (s.at' + (textB a).length) = t
  rw [← List.drop_drop, h.2, List.drop_left]
theorem at_texts {b : Str} {s u : TSrc} {l a : List Str} {t : Str} (h : AtS b s (textsB a ++ t)) (ha : (∀ x ∈ a, x.length ≤ 60) ∧ a.length ≤ 40) (hx : TextsOk b s u l) : AtS b u t ∧ l = a := by
  have e : textsA b s = some (a, (textsB a).length) := by unfold textsA; rw [h.1, h.2]; exact textsP_textsB ha.1 ha.2 t
  have hb : u.bad = false := by
    cases hb : u.bad with
    | false => rfl
    | true => have := textsOk_bad hx hb; rw [e] at this; cases this
  obtain ⟨k, h2, h3⟩ := textsOk_good hx hb
  rw [e] at h2
  injection h2 with h2; injection h2 with h2 h4
  subst h2; subst h4
  rw [h3]
  refine ⟨⟨rfl, ?_⟩, rfl⟩
  show b.drop (s.at' + (textsB a).length) = t
  rw [← List.drop_drop, h.2, List.drop_left]
theorem at_flag {b : Str} {s : TSrc} {f : Bool} {t : Str} (h : AtS b s (flagB f ++ t)) (hs : s.at' ≤ b.length) : AtS b (takeR b s 1).1 t ∧ ((takeR b s 1).2 == [1]) = f := by
  have hd : b.drop s.at' = (if f = true then 1 else 0) :: t := by rw [h.2]; unfold flagB; split <;> rfl
  rcases takeR_one h.1 hs with ⟨e, _⟩ | ⟨c, r, e, e2⟩
  · rw [hd] at e; cases e
  · rw [hd] at e
    injection e with e3 e4
    subst e4
    rw [e2]
    refine ⟨⟨rfl, ?_⟩, ?_⟩
    · show b.drop (s.at' + 1) = t
      rw [← List.drop_drop, hd]; rfl
    · show ([c] == [1]) = f
      rw [← e3]; cases f <;> rfl
theorem at_one {b : Str} {s : TSrc} {f : Bool} {t : Str} (h : AtS b s (flagB f ++ t)) (hs : s.at' ≤ b.length) : AtS b (oneR b s).1 t ∧ (((oneR b s).2 : Int) == 1) = f := by
  have hd : b.drop s.at' = (if f = true then 1 else 0) :: t := by rw [h.2]; unfold flagB; split <;> rfl
  rcases oneR_one h.1 hs with ⟨e, _⟩ | ⟨c, r, e, e2⟩
  · rw [hd] at e; cases e
  · rw [hd] at e
    injection e with e3 e4
    subst e4
    rw [e2]
    refine ⟨⟨rfl, ?_⟩, ?_⟩
    · show b.drop (s.at' + 1) = t
      rw [← List.drop_drop, hd]; rfl
    · show (((c.toNat : Nat) : Int) == 1) = f
      rw [← e3]; cases f <;> rfl
theorem writesB_split {l : List TWrite} {i : Nat} {w : TWrite} (h : l[i]? = some w) : writesB (l.drop i) = textB w.Key ++ (flagB w.Gone ++ (textB w.Val ++ writesB (l.drop (i + 1)))) := by
  rw [drop_some h]
  show writeB w ++ writesB (l.drop (i + 1)) = _
  unfold writeB; simp
theorem takeR_at {b : Str} {s : TSrc} (n : Nat) (hs : s.at' ≤ b.length) : s.at' ≤ (takeR b s n).1.at' ∧ (takeR b s n).1.at' ≤ b.length := by
  unfold takeR
  split
  · exact ⟨Nat.le_refl _, hs⟩
  · rename_i h
    simp only [Bool.or_eq_true, decide_eq_true_eq, not_or] at h
    have := h.2
    exact ⟨Nat.le_add_right _ _, by dsimp only; omega⟩
theorem oneR_at {b : Str} {s : TSrc} (hs : s.at' ≤ b.length) : s.at' ≤ (oneR b s).1.at' ∧ (oneR b s).1.at' ≤ b.length := by
  unfold oneR
  split
  · exact ⟨Nat.le_refl _, hs⟩
  · rename_i h
    simp only [Bool.or_eq_true, decide_eq_true_eq, not_or] at h
    have := h.2
    exact ⟨Nat.le_add_right _ _, by dsimp only; omega⟩
theorem head_parse {p : Str} {r : TRec} (hg : GoodR r) (hp : p = recIn r) {x1 x2 x3 x4 x5 : TSrc × Nat} {u : TSrc} {l : List Str} (h1 : NumOk p ⟨0, false⟩ x1) (h2 : NumOk p x1.1 x2) (h3 : NumOk p x2.1 x3) (h4 : NumOk p x3.1 x4) (ht : TextsOk p (takeR p x4.1 1).1 u l) (h5 : NumOk p u x5) :
    AtS p x5.1 (writesB r.Writes) ∧ (x1.2 = r.Kind.toNat ∧ x2.2 = r.Txn.toNat ∧ x3.2 = r.Time.toNat ∧ x4.2 = r.Lead.toNat) ∧ l = r.Reads ∧ ((takeR p x4.1 1).2 == [1]) = r.Yes ∧ x5.2 = r.Writes.length := by
  have a1 := hg.kind; have a2 := hg.txn; have a3 := hg.time; have a4 := hg.lead; have a5 := hg.writes.1
  have h0 : AtS p ⟨0, false⟩ (numB r.Kind.toNat ++ (numB r.Txn.toNat ++ (numB r.Time.toNat ++ (numB r.Lead.toNat ++ (flagB r.Yes ++ (textsB r.Reads ++ (numB r.Writes.length ++ writesB r.Writes))))))) := ⟨rfl, by rw [hp]; unfold recIn recHd; simp⟩
  obtain ⟨g1, e1⟩ := at_num h0 (by omega) h1
  obtain ⟨g2, e2⟩ := at_num g1 (by omega) h2
  obtain ⟨g3, e3⟩ := at_num g2 (by omega) h3
  obtain ⟨g4, e4⟩ := at_num g3 (by omega) h4
  obtain ⟨g5, e5⟩ := at_flag g4 h4.1.2
  obtain ⟨g6, e6⟩ := at_texts g5 (good_keys hg) ht
  obtain ⟨g7, e7⟩ := at_num g6 (by omega) h5
  exact ⟨g7, ⟨e1, e2, e3, e4⟩, e6, e5, e7⟩
theorem head_parseS {p : Str} {r : TRec} (hg : GoodR r) (hp : p = recIn r) {x1 x2 x3 x4 x5 : TSrc × Nat} {u : TSrc} {l : List Str} (h1 : NumOk p ⟨0, false⟩ x1) (h2 : NumOk p x1.1 x2) (h3 : NumOk p x2.1 x3) (h4 : NumOk p x3.1 x4) (ht : TextsOk p (oneR p x4.1).1 u l) (h5 : NumOk p u x5) :
    AtS p x5.1 (writesB r.Writes) ∧ (x1.2 = r.Kind.toNat ∧ x2.2 = r.Txn.toNat ∧ x3.2 = r.Time.toNat ∧ x4.2 = r.Lead.toNat) ∧ l = r.Reads ∧ (((oneR p x4.1).2 : Int) == 1) = r.Yes ∧ x5.2 = r.Writes.length := by
  have a1 := hg.kind; have a2 := hg.txn; have a3 := hg.time; have a4 := hg.lead; have a5 := hg.writes.1
  have h0 : AtS p ⟨0, false⟩ (numB r.Kind.toNat ++ (numB r.Txn.toNat ++ (numB r.Time.toNat ++ (numB r.Lead.toNat ++ (flagB r.Yes ++ (textsB r.Reads ++ (numB r.Writes.length ++ writesB r.Writes))))))) := ⟨rfl, by rw [hp]; unfold recIn recHd; simp⟩
  obtain ⟨g1, e1⟩ := at_num h0 (by omega) h1
  obtain ⟨g2, e2⟩ := at_num g1 (by omega) h2
  obtain ⟨g3, e3⟩ := at_num g2 (by omega) h3
  obtain ⟨g4, e4⟩ := at_num g3 (by omega) h4
  obtain ⟨g5, e5⟩ := at_one g4 h4.1.2
  obtain ⟨g6, e6⟩ := at_texts g5 (good_keys hg) ht
  obtain ⟨g7, e7⟩ := at_num g6 (by omega) h5
  exact ⟨g7, ⟨e1, e2, e3, e4⟩, e6, e5, e7⟩
def WsAt (p : Str) (r : TRec) (n : Nat) (s : TSrc) (ws : List TWrite) : Prop := ∃ i, i + n = r.Writes.length ∧ ws = r.Writes.take i ∧ AtS p s (writesB (r.Writes.drop i))
theorem wsAt_step {p : Str} {r : TRec} {n : Nat} {s : TSrc} {ws : List TWrite} (hg : GoodR r) (h : WsAt p r n s ws) (hn : 0 < n) {x y : TSrc × Str} (h1 : TextOk p s x) (hx : x.1.at' ≤ p.length) (h2 : TextOk p (takeR p x.1 1).1 y) : WsAt p r (n - 1) y.1 (ws ++ [⟨x.2, y.2, ((takeR p x.1 1).2 == [1])⟩]) := by
  obtain ⟨i, e1, e2, e3⟩ := h
  obtain ⟨w, hw⟩ := get_some (show i < r.Writes.length by omega)
  rw [writesB_split hw] at e3
  have hk := good_ws hg w (List.mem_of_getElem? hw)
  obtain ⟨g1, k1⟩ := at_text e3 hk.1 h1
  obtain ⟨g2, k2⟩ := at_flag g1 hx
  obtain ⟨g3, k3⟩ := at_text g2 hk.2 h2
  refine ⟨i + 1, by omega, ?_, g3⟩
  rw [List.take_add_one, hw, e2, k1, k2, k3]; rfl
theorem wsAt_stepS {p : Str} {r : TRec} {n : Nat} {s : TSrc} {ws : List TWrite} (hg : GoodR r) (h : WsAt p r n s ws) (hn : 0 < n) {x y : TSrc × Str} (h1 : TextOk p s x) (hx : x.1.at' ≤ p.length) (h2 : TextOk p (oneR p x.1).1 y) : WsAt p r (n - 1) y.1 (ws ++ [⟨x.2, y.2, (((oneR p x.1).2 : Int) == 1)⟩]) := by
  obtain ⟨i, e1, e2, e3⟩ := h
  obtain ⟨w, hw⟩ := get_some (show i < r.Writes.length by omega)
  rw [writesB_split hw] at e3
  have hk := good_ws hg w (List.mem_of_getElem? hw)
  obtain ⟨g1, k1⟩ := at_text e3 hk.1 h1
  obtain ⟨g2, k2⟩ := at_one g1 hx
  obtain ⟨g3, k3⟩ := at_text g2 hk.2 h2
  refine ⟨i + 1, by omega, ?_, g3⟩
  rw [List.take_add_one, hw, e2, k1, k2, k3]; rfl
theorem wsAt_end {p : Str} {r : TRec} {n : Nat} {s : TSrc} {ws : List TWrite} (h : WsAt p r n s ws) (hn : n = 0 ∨ s.bad = true) : s.bad = false ∧ ws = r.Writes := by
  obtain ⟨i, e1, e2, e3⟩ := h
  have hb := e3.1
  have hn0 : n = 0 := by rcases hn with h | h; exact h; rw [hb] at h; cases h
  refine ⟨hb, ?_⟩
  rw [e2, List.take_of_length_le (by omega)]
theorem text_grow {p : Str} {s : TSrc} {x : TSrc × Str} (h : TextOk p s x) (hb : x.1.bad = false) : s.at' + 1 ≤ x.1.at' := by
  obtain ⟨t, k, h1, h2⟩ := textOk_good h hb
  unfold textA at h1
  split at h1
  · cases h1
  · obtain ⟨_, h3, _⟩ := textP_some h1
    have h4 := numB_pos t.length
    have h5 : 1 ≤ k := by rw [h3]; unfold textB; rw [List.length_append]; omega
    rw [h2]; show s.at' + 1 ≤ s.at' + k; omega
theorem num_bad {p : Str} {s : TSrc} {x : TSrc × Nat} (h : NumOk p s x) (hb : s.bad = true) : x.1.bad = true := by
  cases e : x.1.bad with
  | true => rfl
  | false =>
    obtain ⟨n, k, h1, _⟩ := numOk_good h e
    unfold numA at h1; rw [if_pos hb] at h1; cases h1
theorem textsN_lens : ∀ {n : Nat} {s : Str} {l : List Str} {k : Nat}, textsN n s = some (l, k) → l.length = n ∧ ∀ t ∈ l, t.length ≤ 60
  | 0, s, l, k, h => by simp [textsN] at h; rw [h.1]; exact ⟨rfl, fun t ht => by cases ht⟩
  | n + 1, s, l, k, h => by
    unfold textsN at h
    cases h1 : textP s with
    | none => rw [h1] at h; cases h
    | some z =>
      obtain ⟨t, j⟩ := z
      rw [h1] at h
      cases h2 : textsN n (s.drop j) with
      | none => simp [h2] at h
      | some z2 =>
        obtain ⟨l2, j2⟩ := z2
        simp [h2] at h
        have ih := textsN_lens h2
        have ht := (textP_some h1).1
        rw [← h.1]
        exact ⟨by simp [ih.1], fun t' ht' => by
          rcases List.mem_cons.1 ht' with rfl | ht'
          · exact ht
          · exact ih.2 t' ht'⟩
theorem texts_lens {p : Str} {s u : TSrc} {l : List Str} (h : TextsOk p s u l) (hb : u.bad = false) : l.length ≤ 40 ∧ ∀ t ∈ l, t.length ≤ 60 := by
  obtain ⟨k, h1, _⟩ := textsOk_good h hb
  cases e : numA p s with
  | none => rw [textsA_none e] at h1; cases h1
  | some z =>
    obtain ⟨n, j⟩ := z
    rw [textsA_num e] at h1
    split at h1
    · rename_i hn
      cases e2 : textsN n ((p.drop s.at').drop j) with
      | none => rw [e2] at h1; cases h1
      | some z2 =>
        obtain ⟨l2, k2⟩ := z2
        rw [e2] at h1
        have h3 := textsN_lens e2
        simp at h1
        rw [← h1.1]
        exact ⟨by omega, h3.2⟩
    · cases h1
theorem readRec_end {b : Str} {r0 : TRec} (h0 : (readRecR b).1 = r0) {rr : TRec} (hrr : goodRec r0 = true ∧ recB r0 = b → rr = r0) {bad : Bool} (hb : goodRec r0 = true ∧ recB r0 = b → bad = false) (h : ((bad || !goodRec rr) || (recB rr != b)) = true) : readRecR b = (emptyR, false) := by
  refine readRecR_no fun hh => ?_
  rw [h0] at hh
  rw [hb hh, hrr hh, hh.1] at h
  simp [hh.2] at h
end Go.M

set_option linter.unusedVariables false
set_option linter.unusedSimpArgs false
namespace Go.M
theorem bytesLess_trans : ∀ {a b c : Str}, Op.bytesLess a b = true → Op.bytesLess b c = true → Op.bytesLess a c = true
  | [], b, c, h1, h2 => by
    cases c with
    | nil => cases b <;> simp [Op.bytesLess] at h2
    | cons z c => rfl
  | x :: a, [], _, h1, _ => by simp [Op.bytesLess] at h1
  | x :: a, y :: b, [], _, h2 => by simp [Op.bytesLess] at h2
  | x :: a, y :: b, z :: c, h1, h2 => by
    simp only [Op.bytesLess, Bool.or_eq_true, Bool.and_eq_true, decide_eq_true_eq, beq_iff_eq] at h1 h2 ⊢
    rcases h1 with h1 | ⟨h1, h1'⟩
    · rcases h2 with h2 | ⟨h2, _⟩
      · exact .inl (UInt8.lt_trans h1 h2)
      · subst h2; exact .inl h1
    · subst h1
      rcases h2 with h2 | ⟨h2, h2'⟩
      · exact .inl h2
      · exact .inr ⟨h2, bytesLess_trans h1' h2'⟩
end Go.M

set_option linter.unusedVariables false
set_option linter.unusedSimpArgs false
namespace Go.M
end Go.M

set_option linter.unusedVariables false
set_option linter.unusedSimpArgs false
namespace Go.M
open Go.AV
abbrev decD (n : Nat) : Str := Lib.decDigits n
abbrev itoaD (n : Int) : Str := Lib.itoa n
theorem decD_small {n : Nat} (h : n < 10) : decD n = [UInt8.ofNat (48 + n)] := Lib.decDigits_one h
theorem decD_big {n : Nat} (h : ¬ n < 10) : decD n = decD (n / 10) ++ [UInt8.ofNat (48 + n % 10)] := by
  show Lib.decDigits n = _
  rw [Lib.decDigits, dif_neg h]
theorem decD_len : ∀ {k n : Nat}, n < 10 ^ k → 1 ≤ k → (decD n).length ≤ k
  | 0, _, _, h => by omega
  | k + 1, n, h, _ => by
    by_cases hn : n < 10
    · rw [decD_small hn]; simp
    · rw [decD_big hn, List.length_append]
      have : k ≠ 0 := by rintro rfl; simp at h; omega
      have h2 := decD_len (k := k) (n := n / 10) (by rw [Nat.pow_succ] at h; omega) (by omega)
      simp only [List.length_cons, List.length_nil]; omega
theorem itoa_nat (n : Nat) : itoaD n = decD n := Lib.itoa_nonneg n
theorem itoa_pos {n : Int} (h : 0 ≤ n) : itoaD n = decD n.toNat := by
  obtain ⟨m, rfl⟩ : ∃ m : Nat, n = (m : Int) := ⟨n.toNat, by omega⟩
  rw [itoa_nat]; rfl
theorem u8w2 {x : Int} {m : Nat} (h : x % 256 = ((m % 256 : Nat) : Int)) : IntKind.u8.wrap x = ((UInt8.ofNat m).toNat : Int) := by
  have : (UInt8.ofNat m).toNat = m % 256 := by simp
  rw [this, ← h]
  simp [IntKind.wrap, IntKind.bits, IntKind.signed]
theorem dig1 (n : Nat) : IntKind.u8.wrap (48 + (n : Int)) = ((UInt8.ofNat (48 + n)).toNat : Int) := u8w2 (by omega)
theorem tmod10 (n : Nat) : (n : Int).tmod 10 = ((n % 10 : Nat) : Int) := rfl
theorem dig2 (n : Nat) : IntKind.u8.wrap (48 + (n : Int).tmod 10) = ((UInt8.ofNat (48 + n % 10)).toNat : Int) := by
  rw [show (n : Int).tmod 10 = ((n % 10 : Nat) : Int) from rfl]; exact u8w2 (by omega)
theorem quo10 {n : Nat} (h : n ≤ 1000000000000) : IntKind.i64.wrap ((n : Int).tdiv 10) = ((n / 10 : Nat) : Int) := by
  rw [show (n : Int).tdiv 10 = ((n / 10 : Nat) : Int) from rfl]
  have h2 : n / 10 ≤ 1000000000000 := by omega
  simp [IntKind.wrap, IntKind.bits, IntKind.signed]
  omega
end Go.M

set_option linter.unusedVariables false
set_option linter.unusedSimpArgs false
namespace Go.M
open Go.AV
end Go.M

set_option linter.unusedVariables false
set_option linter.unusedSimpArgs false
namespace Go.M
open Go.AV
def addP (p : Str) : List Str → List Str
  | [] => [p]
  | w :: ws => (p ++ w) :: ws
def splitC (c : UInt8) : Str → List Str
  | [] => [[]]
  | b :: s => if b = c then [] :: splitC c s else addP [b] (splitC c s)
theorem splitC_cons (c b : UInt8) (s : Str) : splitC c (b :: s) = if b = c then [] :: splitC c s else addP [b] (splitC c s) := rfl
theorem splitC_ne (c : UInt8) (s : Str) : splitC c s ≠ [] := by
  cases s with
  | nil => simp [splitC]
  | cons b s =>
    unfold splitC
    split
    · simp
    · cases splitC c s <;> simp [addP]
theorem addP_nil {ws : List Str} (h : ws ≠ []) : addP [] ws = ws := by
  cases ws with
  | nil => exact absurd rfl h
  | cons w ws => rfl
theorem addP_add (p q : Str) (ws : List Str) : addP p (addP q ws) = addP (p ++ q) ws := by
  cases ws <;> simp [addP]
theorem splitC_no {c : UInt8} : ∀ {s : Str}, c ∉ s → splitC c s = [s]
  | [], _ => rfl
  | b :: s, h => by
    unfold splitC
    rw [if_neg (fun e => h (by rw [e]; exact List.mem_cons_self)), splitC_no fun hm => h (List.mem_cons_of_mem _ hm)]; rfl
theorem splitC_app {c : UInt8} : ∀ {a : Str} (s : Str), c ∉ a → splitC c (a ++ c :: s) = a :: splitC c s
  | [], s, _ => by show splitC c (c :: s) = _; rw [splitC_cons, if_pos rfl]
  | b :: a, s, h => by
    show splitC c (b :: (a ++ c :: s)) = _
    rw [splitC_cons, if_neg (fun e => h (by rw [e]; exact List.mem_cons_self)), splitC_app s fun hm => h (List.mem_cons_of_mem _ hm)]; rfl
theorem idx_cons (b c : UInt8) (l : Str) : Lib.index (b :: l) [c] = if (c == b) = true then 0 else if (Lib.index l [c] == -1) = true then -1 else Lib.index l [c] + 1 := by
  conv => lhs; unfold Lib.index
  simp [List.isPrefixOf]
theorem split_rec (c : UInt8) : ∀ (s : Str) (k : Nat), k = s.count c → Lib.splitK [c] 0 k s = splitC c s
  | [], k, h => by subst h; rfl
  | b :: l, k, h => by
    unfold splitC
    by_cases hb : b = c
    · subst hb
      rw [List.count_cons_self] at h
      subst h
      rw [if_pos rfl]
      unfold Lib.splitK
      rw [idx_cons]
      simp
      exact split_rec b l _ rfl
    · rw [List.count_cons_of_ne hb] at h
      rw [if_neg hb]
      have ih := split_rec c l k h
      cases k with
      | zero =>
        rw [← ih]; rfl
      | succ k =>
        rw [← ih]
        unfold Lib.splitK
        have hcb : ¬ (c == b) = true := by simpa using fun e : c = b => hb e.symm
        rw [idx_cons, if_neg hcb]
        have hge := Lib.index_ge l [c]
        by_cases hi : Lib.index l [c] = -1
        · simp [hi, addP]
        · have h1 : (Lib.index l [c] == -1) = false := by simpa using hi
          have h2 : (Lib.index l [c] + 1 == -1) = false := by simp; omega
          have h3 : (Lib.index l [c] + 1).toNat = (Lib.index l [c]).toNat + 1 := by omega
          simp only [h1, h2, Bool.false_eq_true, if_false, h3, addP, Nat.add_zero, List.length_cons, List.length_nil, List.take_succ_cons, List.cons_append, List.nil_append]
          simp [h3]
def SpOk (c : UInt8) (s : Str) (acc : List Str) (fr i : Nat) : Prop := splitC c s = acc ++ addP ((s.drop fr).take (i - fr)) (splitC c (s.drop i)) ∧ fr ≤ i ∧ i ≤ s.length ∧ acc.length ≤ i
theorem spOk_start (c : UInt8) (s : Str) : SpOk c s [] 0 0 := ⟨by simp [addP_nil (splitC_ne c s)], Nat.le_refl _, Nat.zero_le _, Nat.le_refl _⟩
theorem spOk_hit {c : UInt8} {s : Str} {acc : List Str} {fr i : Nat} (h : SpOk c s acc fr i) (hx : s[i]? = some c) : SpOk c s (acc ++ [(s.take i).drop fr]) (i + 1) (i + 1) := by
  obtain ⟨h1, h2, h3, h4⟩ := h
  have hlt := (List.getElem?_eq_some_iff.1 hx).1
  have hd : s.drop i = c :: s.drop (i + 1) := by rw [List.drop_eq_getElem_cons hlt]; congr 1; exact (List.getElem?_eq_some_iff.1 hx).2
  refine ⟨?_, Nat.le_refl _, hlt, by simp; omega⟩
  rw [h1, hd]
  have e : splitC c (c :: s.drop (i + 1)) = [] :: splitC c (s.drop (i + 1)) := by rw [splitC_cons, if_pos rfl]
  rw [e, Nat.sub_self, List.take_zero, addP_nil (splitC_ne c _), List.append_assoc]
  show acc ++ (((s.drop fr).take (i - fr) ++ []) :: splitC c (s.drop (i + 1))) = _
  rw [List.append_nil, ← List.drop_take]; rfl
theorem spOk_miss {c b : UInt8} {s : Str} {acc : List Str} {fr i : Nat} (h : SpOk c s acc fr i) (hx : s[i]? = some b) (hb : b ≠ c) : SpOk c s acc fr (i + 1) := by
  obtain ⟨h1, h2, h3, h4⟩ := h
  have hlt := (List.getElem?_eq_some_iff.1 hx).1
  have hd : s.drop i = b :: s.drop (i + 1) := by rw [List.drop_eq_getElem_cons hlt]; congr 1; exact (List.getElem?_eq_some_iff.1 hx).2
  refine ⟨?_, by omega, hlt, by omega⟩
  rw [h1, hd]
  have e : splitC c (b :: s.drop (i + 1)) = addP [b] (splitC c (s.drop (i + 1))) := by rw [splitC_cons, if_neg hb]
  rw [e, addP_add]
  congr 2
  rw [show i + 1 - fr = (i - fr) + 1 by omega, List.take_add_one, List.getElem?_drop, show fr + (i - fr) = i by omega, hx]; rfl
theorem spOk_end {c : UInt8} {s : Str} {acc : List Str} {fr i : Nat} (h : SpOk c s acc fr i) (hi : s.length ≤ i) : splitC c s = acc ++ [s.drop fr] := by
  obtain ⟨h1, h2, h3, h4⟩ := h
  rw [h1, List.drop_of_length_le hi, List.take_of_length_le (by rw [List.length_drop]; omega)]
  simp [splitC, addP]
def isDig (b : UInt8) : Bool := decide (48 ≤ b.toNat) && decide (b.toNat ≤ 57)
theorem decD_dig (n : Nat) : ∀ b ∈ decD n, 48 ≤ b.toNat ∧ b.toNat ≤ 57 := by
  induction n using Nat.strongRecOn with
  | ind n ih =>
    intro b hb
    by_cases h : n < 10
    · rw [decD_small h] at hb
      rw [List.mem_singleton.1 hb]
      have : (UInt8.ofNat (48 + n)).toNat = (48 + n) % 256 := by simp
      omega
    · rw [decD_big h] at hb
      rcases List.mem_append.1 hb with hb | hb
      · exact ih (n / 10) (by omega) b hb
      · rw [List.mem_singleton.1 hb]
        have : (UInt8.ofNat (48 + n % 10)).toNat = (48 + n % 10) % 256 := by simp
        omega
theorem decD_head {n : Nat} (hn : 0 < n) : ∃ d r, decD n = d :: r ∧ d.toNat ≠ 48 := by
  induction n using Nat.strongRecOn with
  | ind n ih =>
    by_cases h : n < 10
    · refine ⟨_, _, decD_small h, ?_⟩
      have : (UInt8.ofNat (48 + n)).toNat = (48 + n) % 256 := by simp
      omega
    · obtain ⟨d, r, e, hd⟩ := ih (n / 10) (by omega) (by omega)
      exact ⟨d, r ++ [UInt8.ofNat (48 + n % 10)], by rw [decD_big h, e]; rfl, hd⟩
theorem decD_ne (n : Nat) : decD n ≠ [] := by
  by_cases h : n < 10
  · rw [decD_small h]; simp
  · rw [decD_big h]; simp
theorem pu_snoc {d : UInt8} (hd : 48 ≤ d.toNat ∧ d.toNat ≤ 57) : ∀ (l : Str) (acc u : Nat), Lib.parseUint10 acc l = .ok u → u < 100000000000000000 → Lib.parseUint10 acc (l ++ [d]) = .ok (u * 10 + (d.toNat - 48))
  | [], acc, u, h, hu => by
    simp only [Lib.parseUint10] at h
    injection h with h
    subst h
    simp only [List.nil_append, Lib.parseUint10]
    rw [if_pos hd, if_neg (by omega), if_neg (by omega)]
  | c :: r, acc, u, h, hu => by
    simp only [Lib.parseUint10] at h
    show Lib.parseUint10 acc (c :: (r ++ [d])) = _
    simp only [Lib.parseUint10]
    split at h
    · rename_i h1
      rw [if_pos h1]
      split at h
      · cases h
      · rename_i h2
        rw [if_neg h2]
        split at h
        · cases h
        · rename_i h3
          rw [if_neg h3]
          exact pu_snoc hd r _ u h hu
    · cases h
theorem pu_dec (n : Nat) : n ≤ 1000000000000 → Lib.parseUint10 0 (decD n) = .ok n := by
  induction n using Nat.strongRecOn with
  | ind n ih =>
    intro hn
    by_cases h : n < 10
    · rw [decD_small h]
      have : (UInt8.ofNat (48 + n)).toNat = 48 + n := by simp; omega
      simp only [Lib.parseUint10, this]
      rw [if_pos (by omega), if_neg (by omega), if_neg (by omega)]
      congr 1; omega
    · rw [decD_big h]
      have h8 : (UInt8.ofNat (48 + n % 10)).toNat = 48 + n % 10 := by simp; omega
      rw [pu_snoc (by omega) _ 0 (n / 10) (ih (n / 10) (by omega) (by omega)) (by omega), h8]
      congr 1; omega
theorem atoi_dec {n : Nat} (h : n ≤ 1000000000000) : Lib.atoiAll (decD n) = .ok (n : Int) := by
  have hp := pu_dec n h
  have hdg := decD_dig n
  cases hl : decD n with
  | nil => exact absurd hl (decD_ne n)
  | cons c r =>
    rw [hl] at hp hdg
    have hc := hdg c List.mem_cons_self
    unfold Lib.atoiAll Lib.parseMag
    dsimp only
    rw [if_neg (show ¬ (c.toNat = 43 ∨ c.toNat = 45) by omega), if_neg (by simp), hp]
    dsimp only
    rw [if_neg (by omega), if_neg (by omega), if_neg (by omega)]
def atoiV (s : Str) : Int := match Lib.atoiAll s with | .ok v => v | .range => Lib.atoiSat s | _ => 0
def atoiBad (s : Str) : Bool := match Lib.atoiAll s with | .ok _ => false | _ => true
def readI (s : Str) (lo hi : Int) : Int × Bool := if ((atoiBad s || !within (atoiV s) lo hi) || (itoaD (atoiV s) != s)) = true then (0, false) else (atoiV s, true)
theorem readI_dec {n : Nat} {lo hi : Int} (h : n ≤ 1000000000000) (hw : within n lo hi = true) : readI (decD n) lo hi = ((n : Int), true) := by
  have e := atoi_dec h
  have e1 : atoiV (decD n) = n := by unfold atoiV; rw [e]
  have e2 : atoiBad (decD n) = false := by unfold atoiBad; rw [e]
  unfold readI
  rw [e1, e2, hw, itoa_nat, if_neg (by simp)]
def rdFrom (n : Nat) : Str → Int
  | [] => n
  | b :: s => if isDig b = true then rdFrom (10 * n + (b.toNat - 48)) s else -1
def l1BadB (s : Str) : Bool := !within s.length 1 6 || ((s.head?.map fun b => b == 48).getD false && decide ((1 : Int) < (s.length : Int)))
def l1R (s : Str) : Int := if l1BadB s = true then -1 else rdFrom 0 s
theorem rd_snoc {d : UInt8} (hd : 48 ≤ d.toNat ∧ d.toNat ≤ 57) : ∀ (s : Str) (m v : Nat), rdFrom m s = (v : Int) → rdFrom m (s ++ [d]) = ((10 * v + (d.toNat - 48) : Nat) : Int)
  | [], m, v, h => by
    simp only [rdFrom] at h
    have : m = v := by omega
    subst this
    simp only [List.nil_append, rdFrom]
    rw [if_pos (by unfold isDig; simp; omega)]
  | b :: s, m, v, h => by
    simp only [rdFrom] at h
    show rdFrom m (b :: (s ++ [d])) = _
    simp only [rdFrom]
    split at h
    · rename_i h1
      rw [if_pos h1]
      exact rd_snoc hd s _ v h
    · exfalso; omega
theorem rd_dec (n : Nat) : rdFrom 0 (decD n) = (n : Int) := by
  induction n using Nat.strongRecOn with
  | ind n ih =>
    by_cases h : n < 10
    · rw [decD_small h]
      have h8 : (UInt8.ofNat (48 + n)).toNat = 48 + n := by simp; omega
      simp only [rdFrom, h8]
      rw [if_pos (by unfold isDig; rw [h8]; simp; omega)]
      congr 1; omega
    · rw [decD_big h]
      have h8 : (UInt8.ofNat (48 + n % 10)).toNat = 48 + n % 10 := by simp; omega
      rw [rd_snoc (by omega) _ 0 (n / 10) (ih (n / 10) (by omega)), h8]
      congr 1; omega
theorem l1R_dec {n : Nat} (h : n ≤ 999999) : l1R (decD n) = n := by
  have hl := decD_len (k := 6) (n := n) (by omega) (by decide)
  have hne := decD_ne n
  have hpos : 1 ≤ (decD n).length := by
    cases hd : decD n with
    | nil => exact absurd hd hne
    | cons b r => simp
  unfold l1R
  rw [if_neg, rd_dec]
  unfold l1BadB within
  simp only [Bool.or_eq_true, Bool.not_eq_true', Bool.and_eq_true, not_or, not_and]
  refine ⟨by simp; omega, fun hh hlt => ?_⟩
  by_cases hz : n = 0
  · subst hz
    have : (decD 0).length = 1 := by rw [decD_small (by decide)]; rfl
    simp at hlt; omega
  · obtain ⟨d, r, e, hd⟩ := decD_head (n := n) (by omega)
    rw [e] at hh
    simp at hh
    rw [hh] at hd
    exact hd rfl
end Go.M

set_option linter.unusedVariables false
set_option linter.unusedSimpArgs false
namespace Go.M
open Go.AV
theorem l3_no {s o : Str} (h : l3Bytes s o = true) {b : UInt8} (hn : (lowDig b || o.any fun d => ((b.toNat : Int) == (d.toNat : Int))) = false) : b ∉ s := fun hb => by
  unfold l3Bytes at h
  have := List.all_eq_true.1 h b hb
  rw [hn] at this; cases this
theorem splitC_len {c : UInt8} : ∀ {s w : Str}, w ∈ splitC c s → w.length ≤ s.length
  | [], w, h => by simp [splitC] at h; subst h; exact Nat.le_refl _
  | b :: s, w, h => by
    rw [splitC_cons] at h
    split at h
    · rcases List.mem_cons.1 h with rfl | h
      · exact Nat.zero_le _
      · have := splitC_len h; simp only [List.length_cons]; omega
    · cases hs : splitC c s with
      | nil => exact absurd hs (splitC_ne c s)
      | cons x xs =>
        rw [hs] at h
        rcases List.mem_cons.1 h with rfl | h
        · have := splitC_len (c := c) (s := s) (w := x) (by rw [hs]; exact List.mem_cons_self)
          simp only [List.cons_append, List.nil_append, List.length_cons]; omega
        · have := splitC_len (c := c) (s := s) (w := w) (by rw [hs]; exact List.mem_cons_of_mem _ h)
          simp only [List.length_cons]; omega
theorem idx_no {c : UInt8} : ∀ {s : Str}, c ∉ s → Lib.index s [c] = -1
  | [], _ => rfl
  | b :: s, h => by
    rw [idx_cons, if_neg (by simpa using fun e : c = b => h (by rw [e]; exact List.mem_cons_self)), idx_no fun hm => h (List.mem_cons_of_mem _ hm)]; rfl
theorem idx_at {c : UInt8} : ∀ {a : Str} (s : Str), c ∉ a → Lib.index (a ++ c :: s) [c] = (a.length : Int)
  | [], s, _ => by show Lib.index (c :: s) [c] = _; rw [idx_cons, if_pos (by simp)]; rfl
  | b :: a, s, h => by
    show Lib.index (b :: (a ++ c :: s)) [c] = _
    rw [idx_cons, if_neg (by simpa using fun e : c = b => h (by rw [e]; exact List.mem_cons_self)), idx_at s fun hm => h (List.mem_cons_of_mem _ hm), if_neg (by simp)]
    simp
theorem cut_no {c : UInt8} {s : Str} (h : c ∉ s) : Lib.cut s [c] = (s, [], false) := by unfold Lib.cut; rw [idx_no h]; rfl
theorem cut_at {c : UInt8} {a : Str} (s : Str) (h : c ∉ a) : Lib.cut (a ++ c :: s) [c] = (a, s, true) := by
  unfold Lib.cut
  rw [idx_at s h, if_pos (by omega)]
  simp
theorem cutL_len (s : Str) (c : UInt8) : (Lib.cut s [c]).1.length + (Lib.cut s [c]).2.1.length ≤ s.length := by
  unfold Lib.cut
  split
  · dsimp only; rw [List.length_take, List.length_drop]; simp; omega
  · simp
theorem trim_len (s p : Str) : (Lib.trimSuffix s p).length ≤ s.length := by
  unfold Lib.trimSuffix; split
  · rw [List.length_take]; omega
  · exact Nat.le_refl _
theorem trim_at (s : Str) (c : UInt8) : Lib.trimSuffix (s ++ [c]) [c] = s := by
  unfold Lib.trimSuffix Lib.hasSuffix
  rw [if_pos (by rw [List.isSuffixOf_iff_suffix]; exact List.suffix_append _ _)]
  simp
theorem dec_no {n : Nat} {c : UInt8} (h : c.toNat < 48 ∨ 57 < c.toNat) : c ∉ decD n := fun hm => by
  have := decD_dig n c hm; omega
structure GoodC (c : TFeedItem) : Prop where
  time : ∃ t : Nat, c.Time = (t : Int) ∧ 1 ≤ t ∧ t ≤ 100000
  group : ∃ g : Nat, c.Group = (g : Int) ∧ g ≤ 3
  key : 1 ≤ c.Key.length ∧ (32 : UInt8) ∉ c.Key ∧ (61 : UInt8) ∉ c.Key
  val : (32 : UInt8) ∉ c.Val ∧ (61 : UInt8) ∉ c.Val
  gone : c.Gone = true → c.Val = []
theorem not_app {c : UInt8} {a b : Str} (ha : c ∉ a) (hb : c ∉ b) : c ∉ a ++ b := fun h => (List.mem_append.1 h).elim ha hb
end Go.M

set_option linter.unusedVariables false
set_option linter.unusedSimpArgs false
namespace Go.M
open Go.AV
def hasValK (k : Int) : Bool := k == 2 || k == 7
def hasByK (k : Int) : Bool := k == 4 || k == 5
def idxF : List Str → Str → Nat → Int
  | [], _, _ => -1
  | x :: l, s, n => if s = x then (n : Int) else idxF l s (n + 1)
structure GoodO (o : TOp) : Prop where
  kind : 1 ≤ o.Kind ∧ o.Kind ≤ 7
  key : (32 : UInt8) ∉ o.Key ∧ (59 : UInt8) ∉ o.Key
  val : (32 : UInt8) ∉ o.Val ∧ (59 : UInt8) ∉ o.Val
  noval : hasValK o.Kind = false → o.Val = []
  noby : hasByK o.Kind = false → o.By = 0
  by' : -9999 ≤ o.By ∧ o.By ≤ 9999
theorem itoa_minus {n : Nat} (h : 1 ≤ n) : itoaD (-(n : Int)) = 45 :: decD n := by
  show Lib.itoa _ = _
  unfold Lib.itoa
  rw [if_pos (by omega)]; simp
theorem itoa_no {n : Int} {c : UInt8} (h : (c.toNat < 48 ∨ 57 < c.toNat) ∧ c ≠ 45) : c ∉ itoaD n := by
  show c ∉ Lib.itoa n
  unfold Lib.itoa
  split
  · intro hm
    rcases List.mem_cons.1 hm with e | hm
    · exact h.2 e
    · exact dec_no h.1 hm
  · exact dec_no h.1
theorem atoi_minus {n : Nat} (h1 : 1 ≤ n) (h : n ≤ 1000000000000) : Lib.atoiAll (45 :: decD n) = .ok (-(n : Int)) := by
  have hp := pu_dec n h
  cases hl : decD n with
  | nil => exact absurd hl (decD_ne n)
  | cons c r =>
    rw [hl] at hp
    unfold Lib.atoiAll Lib.parseMag
    dsimp only
    rw [if_pos (show (45 : UInt8).toNat = 43 ∨ (45 : UInt8).toNat = 45 from .inr rfl), if_neg (by simp), hp]
    dsimp only
    rw [if_neg (by simp), if_neg (by simp; omega), if_pos (by rfl)]
theorem readI_itoa {n lo hi : Int} (hn : -1000000 ≤ n ∧ n ≤ 1000000) (hw : within n lo hi = true) : readI (itoaD n) lo hi = (n, true) := by
  by_cases h0 : 0 ≤ n
  · obtain ⟨m, rfl⟩ : ∃ m : Nat, n = (m : Int) := ⟨n.toNat, by omega⟩
    rw [itoa_nat, readI_dec (by omega) hw]
  · obtain ⟨m, rfl⟩ : ∃ m : Nat, n = -(m : Int) := ⟨n.natAbs, by omega⟩
    have e0 := itoa_minus (n := m) (by omega)
    have e := atoi_minus (n := m) (by omega) (by omega)
    have e1 : atoiV (itoaD (-(m : Int))) = -(m : Int) := by unfold atoiV; rw [e0, e]
    have e2 : atoiBad (itoaD (-(m : Int))) = false := by unfold atoiBad; rw [e0, e]
    unfold readI
    rw [e1, e2, hw, if_neg (by simp)]
theorem idxF_next {l : List Str} {s x : Str} {i : Nat} (hx : l[i]? = some x) (h : s ≠ x) : idxF (l.drop i) s i = idxF (l.drop (i + 1)) s (i + 1) := by
  rw [drop_some hx]; conv => lhs; unfold idxF
  rw [if_neg h]
theorem idxF_here {l : List Str} {s x : Str} {i : Nat} (hx : l[i]? = some x) (h : s = x) : idxF (l.drop i) s i = (i : Int) := by
  rw [drop_some hx]; unfold idxF; rw [if_pos h]
theorem idxF_end {l : List Str} {s : Str} {i : Nat} (h : l.length ≤ i) : idxF (l.drop i) s i = -1 := by
  rw [List.drop_eq_nil_of_le h]; rfl
end Go.M

set_option linter.unusedVariables false
set_option linter.unusedSimpArgs false
namespace Go.M
open Go.AV
def rcWs : List Str := [[], [112, 114, 101, 112, 97, 114, 101], [100, 101, 99, 105, 100, 101], [100, 111, 110, 101], [102, 108, 111, 111, 114]]
def rcW (k : Int) : Str := rcWs.getD k.toNat []
def timedR (r : TRec) : Bool := ((r.Kind == 1) || (r.Kind == 4)) || r.Yes
def tkT (r : TRec) : List Str := if r.Kind = 4 then [] else [itoaD r.Txn]
def tkM (r : TRec) : List Str := [if timedR r = true then 64 :: itoaD r.Time else [110, 111]]
def tkL (r : TRec) : List Str := if r.Kind = 1 then [62 :: itoaD r.Lead] else []
def rTok (k : Str) : Str := 63 :: k
def wTok (w : TWrite) : Str := if w.Gone = true then 33 :: (w.Key ++ [45]) else 33 :: (w.Key ++ 61 :: w.Val)
def tkA (r : TRec) : List Str := tkT r ++ (tkM r ++ tkL r)
def toksR (r : TRec) : List Str := tkA r ++ (r.Reads.map rTok ++ r.Writes.map wTok)
def spc (l : List Str) : Str := (l.map fun t => 32 :: t).flatten
def recT (r : TRec) : Str := rcW r.Kind ++ spc (toksR r)
theorem spc_app (a b : List Str) : spc (a ++ b) = spc a ++ spc b := by unfold spc; simp
theorem spc_cons (t : Str) (l : List Str) : spc (t :: l) = 32 :: (t ++ spc l) := by unfold spc; simp
theorem split_spc : ∀ {l : List Str} {a : Str}, (32 : UInt8) ∉ a → (∀ t ∈ l, (32 : UInt8) ∉ t) → splitC 32 (a ++ spc l) = a :: l
  | [], a, h, _ => by show splitC 32 (a ++ []) = _; rw [List.append_nil, splitC_no h]
  | t :: l, a, h, g => by
    rw [spc_cons, splitC_app _ h, split_spc (g t List.mem_cons_self) fun x hx => g x (List.mem_cons_of_mem _ hx)]
theorem kind_mem {k : Int} (h : 1 ≤ k ∧ k ≤ 4) : ∀ P : Int → Prop, P 1 → P 2 → P 3 → P 4 → P k := fun P h1 h2 h3 h4 => by
  have : k = 1 ∨ k = 2 ∨ k = 3 ∨ k = 4 := by omega
  rcases this with e | e | e | e <;> (subst e; assumption)
theorem rcW_no {k : Int} (h : 1 ≤ k ∧ k ≤ 4) : (32 : UInt8) ∉ rcW k := kind_mem h (fun k => (32 : UInt8) ∉ rcW k) (by decide) (by decide) (by decide) (by decide)
theorem rcW_len {k : Int} (h : 1 ≤ k ∧ k ≤ 4) : (rcW k).length ≤ 7 := kind_mem h (fun k => (rcW k).length ≤ 7) (by decide) (by decide) (by decide) (by decide)
def kindRN (w : Str) : Nat → Int
  | 0 => 0
  | k + 1 => if 0 < k ∧ rcWs[k]? = some w then (k : Int) else kindRN w k
def kindRS (w : Str) : Int := kindRN w 5
theorem rcW_idx {k : Int} (h : 1 ≤ k ∧ k ≤ 4) : idxF rcWs (rcW k) 0 = k ∧ kindRS (rcW k) = k := kind_mem h (fun k => idxF rcWs (rcW k) 0 = k ∧ kindRS (rcW k) = k) (by decide) (by decide) (by decide) (by decide)
theorem key_no {s : Str} (h : l3Key s = true) : (32 : UInt8) ∉ s ∧ (61 : UInt8) ∉ s := by
  unfold l3Key at h
  rw [Bool.and_eq_true] at h
  exact ⟨l3_no h.2 (by decide), l3_no h.2 (by decide)⟩
theorem val_no {s : Str} (h : l3Val s = true) : (32 : UInt8) ∉ s ∧ (61 : UInt8) ∉ s := by
  unfold l3Val at h
  rw [Bool.and_eq_true] at h
  exact ⟨l3_no h.2 (by decide), l3_no h.2 (by decide)⟩
theorem cons_no {c b : UInt8} {s : Str} (h : c ≠ b) (g : c ∉ s) : c ∉ b :: s := fun hm => (List.mem_cons.1 hm).elim h g
theorem toksR_no {r : TRec} (h : GoodR r) : ∀ t ∈ toksR r, (32 : UInt8) ∉ t := fun t ht => by
  unfold toksR tkA at ht
  rcases List.mem_append.1 ht with ht | ht
  · rcases List.mem_append.1 ht with ht | ht
    · unfold tkT at ht
      split at ht
      · cases ht
      · rw [List.mem_singleton.1 ht]; exact itoa_no (by decide)
    · rcases List.mem_append.1 ht with ht | ht
      · unfold tkM at ht
        rw [List.mem_singleton.1 ht]
        split
        · exact cons_no (by decide) (itoa_no (by decide))
        · decide
      · unfold tkL at ht
        split at ht
        · rw [List.mem_singleton.1 ht]; exact cons_no (by decide) (itoa_no (by decide))
        · cases ht
  · rcases List.mem_append.1 ht with ht | ht
    · obtain ⟨k, hk, rfl⟩ := List.mem_map.1 ht
      exact cons_no (by decide) (key_no (h.reads.2 k hk)).1
    · obtain ⟨w, hw, rfl⟩ := List.mem_map.1 ht
      have hg := h.writes.2 w hw
      unfold wTok
      split
      · exact cons_no (by decide) (not_app (key_no hg.1).1 (by decide))
      · exact cons_no (by decide) (not_app (key_no hg.1).1 (cons_no (by decide) (val_no hg.2.1).1))
theorem recT_split {r : TRec} (h : GoodR r) : splitC 32 (recT r) = rcW r.Kind :: toksR r := split_spc (rcW_no h.kind) (toksR_no h)
def wrI (s : Str) : TWrite := if (Lib.cut s [61]).2.2 = true then ⟨(Lib.cut s [61]).1, (Lib.cut s [61]).2.1, false⟩ else ⟨Lib.trimSuffix s [45], (Lib.cut s [61]).2.1, true⟩
def setTime (r : TRec) (t : Int) : TRec := ⟨r.Kind, r.Txn, t, r.Lead, r.Reads, r.Writes, (r.Kind == 2) || (r.Kind == 3)⟩
def setLead (r : TRec) (t : Int) : TRec := ⟨r.Kind, r.Txn, r.Time, t, r.Reads, r.Writes, r.Yes⟩
def setTxn (r : TRec) (t : Int) : TRec := ⟨r.Kind, t, r.Time, r.Lead, r.Reads, r.Writes, r.Yes⟩
def addRead (r : TRec) (k : Str) : TRec := ⟨r.Kind, r.Txn, r.Time, r.Lead, r.Reads ++ [k], r.Writes, r.Yes⟩
def addWrite (r : TRec) (w : TWrite) : TRec := ⟨r.Kind, r.Txn, r.Time, r.Lead, r.Reads, r.Writes ++ [w], r.Yes⟩
def wordI (r : TRec) (w : Str) : TRec × Bool := if w = [110, 111] then (r, true) else match w with
  | [] => (r, false)
  | b :: s => if b = 64 then (setTime r (readI s 1 100000).1, (readI s 1 100000).2) else if b = 62 then (setLead r (readI s 0 3).1, (readI s 0 3).2) else if b = 63 then (addRead r s, true) else if b = 33 then (addWrite r (wrI s), true) else (setTxn r (readI (b :: s) 1 60).1, (readI (b :: s) 1 60).2)
def foldI : TRec → List Str → TRec × Bool
  | r, [] => (r, true)
  | r, w :: ws => if (wordI r w).2 = true then foldI (wordI r w).1 ws else (emptyR, false)
theorem foldI_app : ∀ {a b : List Str} {r q : TRec}, foldI r a = (q, true) → foldI r (a ++ b) = foldI q b
  | [], b, r, q, h => by injection h with h _; subst h; rfl
  | w :: a, b, r, q, h => by
    show (if (wordI r w).2 = true then foldI (wordI r w).1 (a ++ b) else (emptyR, false)) = _
    have h2 : (if (wordI r w).2 = true then foldI (wordI r w).1 a else (emptyR, false)) = (q, true) := h
    split at h2
    · rename_i hw; rw [if_pos hw]; exact foldI_app h2
    · cases h2
theorem word_reads : ∀ (l : List Str) (r : TRec), foldI r (l.map rTok) = (⟨r.Kind, r.Txn, r.Time, r.Lead, r.Reads ++ l, r.Writes, r.Yes⟩, true)
  | [], r => by show (r, true) = _; rw [List.append_nil]
  | k :: l, r => by
    have e : wordI r (rTok k) = (addRead r k, true) := by unfold wordI rTok; rw [if_neg (by simp)]; rfl
    show (if (wordI r (rTok k)).2 = true then foldI (wordI r (rTok k)).1 (l.map rTok) else (emptyR, false)) = _
    rw [e, if_pos rfl, word_reads l]
    simp [addRead]
theorem wrI_back {w : TWrite} (h : l3Key w.Key = true ∧ l3Val w.Val = true ∧ (w.Gone = true → w.Val = [])) : ∃ s, wTok w = 33 :: s ∧ wrI s = w := by
  obtain ⟨k, v, g⟩ := w
  obtain ⟨h1, h2, h3⟩ := h
  dsimp only at h1 h2 h3
  have hk := (key_no h1).2
  cases g with
  | true =>
    have hv := h3 rfl
    subst hv
    refine ⟨k ++ [45], rfl, ?_⟩
    have hn : (61 : UInt8) ∉ k ++ [45] := not_app hk (by decide)
    unfold wrI
    rw [cut_no hn, if_neg (by simp), trim_at]
  | false =>
    refine ⟨k ++ 61 :: v, rfl, ?_⟩
    unfold wrI
    rw [cut_at v hk, if_pos rfl]
theorem word_writes : ∀ (l : List TWrite) (r : TRec), (∀ w ∈ l, l3Key w.Key = true ∧ l3Val w.Val = true ∧ (w.Gone = true → w.Val = [])) → foldI r (l.map wTok) = (⟨r.Kind, r.Txn, r.Time, r.Lead, r.Reads, r.Writes ++ l, r.Yes⟩, true)
  | [], r, _ => by show (r, true) = _; rw [List.append_nil]
  | w :: l, r, h => by
    obtain ⟨s, e1, e2⟩ := wrI_back (h w List.mem_cons_self)
    have e : wordI r (wTok w) = (addWrite r w, true) := by
      rw [e1]; unfold wordI; rw [if_neg (by simp)]
      show (addWrite r (wrI s), true) = _
      rw [e2]
    show (if (wordI r (wTok w)).2 = true then foldI (wordI r (wTok w)).1 (l.map wTok) else (emptyR, false)) = _
    rw [e, if_pos rfl, word_writes l _ fun x hx => h x (List.mem_cons_of_mem _ hx)]
    simp [addWrite]
theorem dec_first {n : Int} (h : 0 ≤ n) : ∃ b s, itoaD n = b :: s ∧ 48 ≤ b.toNat ∧ b.toNat ≤ 57 := by
  rw [itoa_pos h]
  cases hd : decD n.toNat with
  | nil => exact absurd hd (decD_ne _)
  | cons b s => exact ⟨b, s, rfl, decD_dig n.toNat b (by rw [hd]; exact List.mem_cons_self)⟩
theorem word_txn {r : TRec} {n : Int} (h : 1 ≤ n ∧ n ≤ 60) : wordI r (itoaD n) = (setTxn r n, true) := by
  obtain ⟨b, s, e, h1, h2⟩ := dec_first (n := n) (by omega)
  have hr := readI_itoa (n := n) (lo := 1) (hi := 60) (by omega) (by unfold within; simp; omega)
  rw [e] at hr ⊢
  have ne : ∀ c : UInt8, (c.toNat < 48 ∨ 57 < c.toNat) → b ≠ c := fun c hc e => by subst e; omega
  unfold wordI
  rw [if_neg (fun e => ne 110 (by decide) (by injection e))]
  show (if b = 64 then _ else _) = _
  rw [if_neg (ne 64 (by decide)), if_neg (ne 62 (by decide)), if_neg (ne 63 (by decide)), if_neg (ne 33 (by decide)), hr]
theorem word_time {r : TRec} {n : Int} (h : 1 ≤ n ∧ n ≤ 100000) : wordI r (64 :: itoaD n) = (setTime r n, true) := by
  have hr := readI_itoa (n := n) (lo := 1) (hi := 100000) (by omega) (by unfold within; simp; omega)
  unfold wordI
  rw [if_neg (by simp)]
  show (setTime r (readI (itoaD n) 1 100000).1, (readI (itoaD n) 1 100000).2) = _
  rw [hr]
theorem word_lead {r : TRec} {n : Int} (h : 0 ≤ n ∧ n ≤ 3) : wordI r (62 :: itoaD n) = (setLead r n, true) := by
  have hr := readI_itoa (n := n) (lo := 0) (hi := 3) (by omega) (by unfold within; simp; omega)
  unfold wordI
  rw [if_neg (by simp)]
  show (setLead r (readI (itoaD n) 0 3).1, (readI (itoaD n) 0 3).2) = _
  rw [hr]
def startR (k : Int) : TRec := ⟨k, 0, 0, 0, [], [], false⟩
structure KindR (r : TRec) : Prop where
  k1 : r.Kind = 1 → (1 ≤ r.Txn ∧ r.Txn ≤ 60) ∧ (1 ≤ r.Time ∧ r.Time ≤ 100000) ∧ r.Yes = false
  k2 : r.Kind = 2 ∨ r.Kind = 3 → (1 ≤ r.Txn ∧ r.Txn ≤ 60) ∧ (r.Yes = true → 1 ≤ r.Time ∧ r.Time ≤ 100000) ∧ (r.Yes = false → r.Time = 0) ∧ r.Lead = 0 ∧ r.Reads = [] ∧ r.Writes = []
  k4 : r.Kind = 4 → r.Txn = 0 ∧ (1 ≤ r.Time ∧ r.Time ≤ 100000) ∧ r.Yes = false ∧ r.Lead = 0 ∧ r.Reads = [] ∧ r.Writes = []
theorem kindR {r : TRec} (h : goodRec r = true) : KindR r := by
  unfold goodRec at h
  refine ⟨fun e => ?_, fun e => ?_, fun e => ?_⟩
  · rw [if_pos e] at h
    unfold good1 isTxnR isTime within at h
    simp only [Bool.and_eq_true, decide_eq_true_eq, Bool.not_eq_true'] at h
    obtain ⟨⟨⟨⟨⟨⟨⟨⟨h1, h2⟩, _⟩, _⟩, _⟩, _⟩, _⟩, _⟩, h9⟩ := h
    exact ⟨by omega, by omega, h9⟩
  · rw [if_neg (by omega), if_pos e] at h
    unfold good2 isTxnR isTime within at h
    simp only [Bool.and_eq_true, Bool.or_eq_true, decide_eq_true_eq, beq_iff_eq, Bool.not_eq_true'] at h
    obtain ⟨⟨h1, h2⟩, h3⟩ := h
    obtain ⟨l1, l2, l3⟩ := bareR_nil h1
    refine ⟨by omega, fun e => ?_, fun e => ?_, l1, l2, l3⟩
    · rcases h3 with h3 | h3
      · omega
      · rw [e] at h3; cases h3.1
    · rcases h3 with h3 | h3
      · rw [e] at h3; cases h3.1
      · exact h3.2
  · rw [if_neg (by omega), if_neg (by omega), if_pos e] at h
    unfold good4 isTime within at h
    simp only [Bool.and_eq_true, decide_eq_true_eq, beq_iff_eq, Bool.not_eq_true'] at h
    obtain ⟨⟨⟨h1, h2⟩, h3⟩, h4⟩ := h
    obtain ⟨l1, l2, l3⟩ := bareR_nil h1
    exact ⟨h2, by omega, h4, l1, l2, l3⟩
theorem foldI_one {r q : TRec} {w : Str} {l : List Str} (h : wordI r w = (q, true)) : foldI r (w :: l) = foldI q l := by
  show (if (wordI r w).2 = true then foldI (wordI r w).1 l else (emptyR, false)) = _
  rw [h, if_pos rfl]
theorem foldI_back {r : TRec} (h : goodRec r = true) : foldI (startR r.Kind) (toksR r) = (r, true) := by
  have hg := goodR h
  have hk := kindR h
  obtain ⟨K, T, M, L, R, W, Y⟩ := r
  have k1 := hk.k1; have k2 := hk.k2; have k4 := hk.k4
  have g1 := hg.kind; have gl := hg.lead; have gw := hg.writes.2
  dsimp only at k1 k2 k4 g1 gl gw
  unfold toksR tkA tkT tkM tkL timedR
  dsimp only
  by_cases e1 : K = 1
  · subst e1
    obtain ⟨t1, t2, t3⟩ := k1 rfl
    subst t3
    rw [if_neg (by decide), if_pos (by decide), if_pos rfl]
    show foldI _ (itoaD T :: (64 :: itoaD M) :: (62 :: itoaD L) :: (R.map rTok ++ W.map wTok)) = _
    rw [foldI_one (word_txn t1), foldI_one (word_time t2), foldI_one (word_lead gl), foldI_app (word_reads R _), word_writes W _ gw]
    rfl
  · by_cases e4 : K = 4
    · subst e4
      obtain ⟨t1, t2, t3, t4, t5, t6⟩ := k4 rfl
      subst t1 t3 t4 t5 t6
      rw [if_pos rfl, if_pos (by decide), if_neg (by decide)]
      show foldI _ [64 :: itoaD M] = _
      rw [foldI_one (word_time t2)]; rfl
    · have e23 : K = 2 ∨ K = 3 := by omega
      obtain ⟨t1, t2, t3, t4, t5, t6⟩ := k2 e23
      subst t4 t5 t6
      rw [if_neg e4, if_neg e1]
      cases Y with
      | true =>
        rw [if_pos (by simp)]
        show foldI _ [itoaD T, 64 :: itoaD M] = _
        rw [foldI_one (word_txn t1), foldI_one (word_time (t2 rfl))]
        rcases e23 with e | e <;> (subst e; rfl)
      | false =>
        have hM := t3 rfl
        subst hM
        have en : ((((K == 1) || (K == 4)) || false) = true) = False := by simp [e1, e4]
        rw [if_neg (by rw [en]; exact id)]
        show foldI _ [itoaD T, [110, 111]] = _
        rw [foldI_one (word_txn t1), foldI_one (show wordI _ [110, 111] = (_, true) from rfl)]; rfl
theorem recT_inj {a b : TRec} (ha : goodRec a = true) (hb : goodRec b = true) (h : recT a = recT b) : a = b := by
  have h1 := recT_split (goodR ha)
  rw [h, recT_split (goodR hb)] at h1
  injection h1 with h1 h2
  have e1 := (rcW_idx (goodR ha).kind).1
  rw [← h1, (rcW_idx (goodR hb).kind).1] at e1
  have h3 := foldI_back ha
  rw [← h2, ← e1, foldI_back hb] at h3
  injection h3 with h3 _
  exact h3.symm
open Classical in
noncomputable def readTxtR (s : Str) : TRec × Bool := if h : ∃ r, goodRec r = true ∧ recT r = s ∧ s.length ≤ 400 then (Classical.choose h, true) else (emptyR, false)
theorem readTxtR_of {r : TRec} (h : goodRec r = true) (hl : (recT r).length ≤ 400) : readTxtR (recT r) = (r, true) := by
  have hx : ∃ q, goodRec q = true ∧ recT q = recT r ∧ (recT r).length ≤ 400 := ⟨r, h, rfl, hl⟩
  unfold readTxtR
  rw [dif_pos hx]
  have h2 := Classical.choose_spec hx
  rw [recT_inj h2.1 h h2.2.1]
theorem readTxtR_no {s : Str} (h : ¬ (goodRec (readTxtR s).1 = true ∧ recT (readTxtR s).1 = s ∧ s.length ≤ 400)) : readTxtR s = (emptyR, false) := by
  unfold readTxtR
  by_cases hx : ∃ r, goodRec r = true ∧ recT r = s ∧ s.length ≤ 400
  · exfalso; apply h
    unfold readTxtR
    rw [dif_pos hx]
    exact Classical.choose_spec hx
  · rw [dif_neg hx]
def recTextR (r : TRec) : Str × Bool := if goodRec r = true then (recT r, true) else ([], false)
def wrS (s : Str) : TWrite := match splitC 61 s with
  | [a, b] => ⟨a, b, false⟩
  | l => if 0 < s.length then ⟨s.take (s.length - 1), [], true⟩ else ⟨l.getD 0 [], [], false⟩
def wordS (r : TRec) (w : Str) : TRec := match w with
  | [] => r
  | b :: s => if b = 64 then setTime r (l1R s) else if b = 62 then setLead r (l1R s) else if b = 63 then addRead r s else if b = 33 then addWrite r (wrS s) else r
def txnS (r : TRec) (l : List Str) : Bool := (decide (0 < r.Kind) && (r.Kind != 4)) && decide (0 < (l.length : Int))
def foldS (r : TRec) (l : List Str) : TRec := l.foldl wordS r
def fullS (k : Int) (l : List Str) : TRec := if txnS (startR k) l = true then foldS (setTxn (startR k) (l1R (l.getD 0 []))) (l.drop 1) else foldS (startR k) l
theorem l1R_itoa {n : Int} (h : 0 ≤ n ∧ n ≤ 999999) : l1R (itoaD n) = n := by
  rw [itoa_pos h.1, l1R_dec (by omega)]; omega
theorem foldS_reads : ∀ (l : List Str) (r : TRec), foldS r (l.map rTok) = ⟨r.Kind, r.Txn, r.Time, r.Lead, r.Reads ++ l, r.Writes, r.Yes⟩
  | [], r => by show r = _; rw [List.append_nil]
  | k :: l, r => by
    show foldS (wordS r (rTok k)) (l.map rTok) = _
    rw [foldS_reads l]
    show TRec.mk _ _ _ _ (r.Reads ++ [k] ++ l) _ _ = _
    rw [List.append_assoc]; rfl
theorem wrS_back {w : TWrite} (h : l3Key w.Key = true ∧ l3Val w.Val = true ∧ (w.Gone = true → w.Val = [])) : ∃ s, wTok w = 33 :: s ∧ wrS s = w := by
  obtain ⟨k, v, g⟩ := w
  obtain ⟨h1, h2, h3⟩ := h
  dsimp only at h1 h2 h3
  have hk := (key_no h1).2
  have hv := (val_no h2).2
  cases g with
  | true =>
    have hv := h3 rfl
    subst hv
    refine ⟨k ++ [45], rfl, ?_⟩
    have hn : (61 : UInt8) ∉ k ++ [45] := not_app hk (by decide)
    unfold wrS
    rw [splitC_no hn]
    show (if 0 < (k ++ [45]).length then TWrite.mk ((k ++ [45]).take ((k ++ [45]).length - 1)) [] true else _) = _
    rw [if_pos (by simp)]
    simp
  | false =>
    refine ⟨k ++ 61 :: v, rfl, ?_⟩
    unfold wrS
    rw [splitC_app _ hk, splitC_no hv]
theorem foldS_writes : ∀ (l : List TWrite) (r : TRec), (∀ w ∈ l, l3Key w.Key = true ∧ l3Val w.Val = true ∧ (w.Gone = true → w.Val = [])) → foldS r (l.map wTok) = ⟨r.Kind, r.Txn, r.Time, r.Lead, r.Reads, r.Writes ++ l, r.Yes⟩
  | [], r, _ => by show r = _; rw [List.append_nil]
  | w :: l, r, h => by
    obtain ⟨s, e1, e2⟩ := wrS_back (h w List.mem_cons_self)
    have e : wordS r (wTok w) = addWrite r w := by
      rw [e1]
      show addWrite r (wrS s) = _
      rw [e2]
    show foldS (wordS r (wTok w)) (l.map wTok) = _
    rw [e, foldS_writes l _ fun x hx => h x (List.mem_cons_of_mem _ hx)]
    show TRec.mk _ _ _ _ _ (r.Writes ++ [w] ++ l) _ = _
    rw [List.append_assoc]; rfl
theorem fullS_back {r : TRec} (h : goodRec r = true) : fullS r.Kind (toksR r) = r := by
  have hg := goodR h
  have hk := kindR h
  obtain ⟨K, T, M, L, R, W, Y⟩ := r
  have k1 := hk.k1; have k2 := hk.k2; have k4 := hk.k4
  have g1 := hg.kind; have gl := hg.lead; have gw := hg.writes.2
  dsimp only at k1 k2 k4 g1 gl gw
  unfold toksR tkA tkT tkM tkL timedR
  dsimp only
  by_cases e1 : K = 1
  · subst e1
    obtain ⟨t1, t2, t3⟩ := k1 rfl
    subst t3
    rw [if_neg (by decide), if_pos (by decide), if_pos rfl]
    show fullS 1 (itoaD T :: (64 :: itoaD M) :: (62 :: itoaD L) :: (R.map rTok ++ W.map wTok)) = _
    unfold fullS
    rw [if_pos (by unfold txnS startR; simp; omega)]
    show foldS (setLead (setTime (setTxn (startR 1) (l1R (itoaD T))) (l1R (itoaD M))) (l1R (itoaD L))) (R.map rTok ++ W.map wTok) = _
    rw [l1R_itoa (by omega), l1R_itoa (by omega), l1R_itoa (by omega)]
    unfold foldS
    rw [List.foldl_append]
    show foldS (foldS _ (R.map rTok)) (W.map wTok) = _
    rw [foldS_reads, foldS_writes _ _ gw]
    rfl
  · by_cases e4 : K = 4
    · subst e4
      obtain ⟨t1, t2, t3, t4, t5, t6⟩ := k4 rfl
      subst t1 t3 t4 t5 t6
      rw [if_pos rfl, if_pos (by decide), if_neg (by decide)]
      show fullS 4 [64 :: itoaD M] = _
      unfold fullS
      rw [if_neg (by unfold txnS startR; simp)]
      show setTime (startR 4) (l1R (itoaD M)) = _
      rw [l1R_itoa (by omega)]; rfl
    · have e23 : K = 2 ∨ K = 3 := by omega
      obtain ⟨t1, t2, t3, t4, t5, t6⟩ := k2 e23
      subst t4 t5 t6
      rw [if_neg e4, if_neg e1]
      have htx : ∀ a b : Str, txnS (startR K) [a, b] = true := fun a b => by unfold txnS startR; simp [e4]; omega
      cases Y with
      | true =>
        rw [if_pos (by simp)]
        show fullS K [itoaD T, 64 :: itoaD M] = _
        unfold fullS
        rw [if_pos (htx _ _)]
        show setTime (setTxn (startR K) (l1R (itoaD T))) (l1R (itoaD M)) = _
        have ht := t2 rfl
        rw [l1R_itoa (by omega), l1R_itoa (by omega)]
        rcases e23 with e | e <;> (subst e; rfl)
      | false =>
        have hM := t3 rfl
        subst hM
        have en : ((((K == 1) || (K == 4)) || false) = true) = False := by simp [e1, e4]
        rw [if_neg (by rw [en]; exact id)]
        show fullS K [itoaD T, [110, 111]] = _
        unfold fullS
        rw [if_pos (htx _ _)]
        show setTxn (startR K) (l1R (itoaD T)) = _
        rw [l1R_itoa (by omega)]; rfl
end Go.M

set_option linter.unusedVariables false
set_option linter.unusedSimpArgs false
namespace Go.M
open Go.AV
def preR (r : TRec) (i : Nat) : Str := rcW r.Kind ++ spc (tkA r ++ (r.Reads.take i).map rTok)
def preW (r : TRec) (j : Nat) : Str := rcW r.Kind ++ spc (tkA r ++ (r.Reads.map rTok ++ (r.Writes.take j).map wTok))
theorem spc_snoc (l : List Str) (t : Str) : spc (l ++ [t]) = spc l ++ 32 :: t := by rw [spc_app, spc_cons]; simp [spc]
theorem preR_zero (r : TRec) : preR r 0 = rcW r.Kind ++ spc (tkA r) := by unfold preR; simp
theorem preW_zero (r : TRec) : preW r 0 = preR r r.Reads.length := by unfold preR preW; simp
theorem preW_all (r : TRec) : preW r r.Writes.length = recT r := by unfold preW recT toksR; simp
theorem preR_next {r : TRec} {i : Nat} {x : Str} (hx : r.Reads[i]? = some x) : preR r (i + 1) = preR r i ++ ([32, 63] ++ x) := by
  unfold preR
  rw [List.take_add_one, hx]
  simp only [Option.toList, List.map_append, List.map_cons, List.map_nil]
  rw [← List.append_assoc (tkA r), spc_snoc, ← List.append_assoc (rcW r.Kind)]; rfl
theorem preW_next {r : TRec} {i : Nat} {x : TWrite} (hx : r.Writes[i]? = some x) : preW r (i + 1) = preW r i ++ (32 :: wTok x) := by
  unfold preW
  rw [List.take_add_one, hx]
  simp only [Option.toList, List.map_append, List.map_cons, List.map_nil]
  rw [← List.append_assoc (r.Reads.map rTok), ← List.append_assoc (tkA r), spc_snoc, ← List.append_assoc (rcW r.Kind)]
theorem preW_nextT {r : TRec} {i : Nat} {x : TWrite} (hx : r.Writes[i]? = some x) (h : x.Gone = true) : preW r (i + 1) = preW r i ++ ([32, 33] ++ x.Key ++ [45]) := by
  rw [preW_next hx]; unfold wTok; rw [if_pos h]; rfl
theorem preW_nextF {r : TRec} {i : Nat} {x : TWrite} (hx : r.Writes[i]? = some x) (h : x.Gone = false) : preW r (i + 1) = preW r i ++ ([32, 33] ++ x.Key ++ [61] ++ x.Val) := by
  rw [preW_next hx]; unfold wTok; rw [if_neg (by rw [h]; decide)]; simp
theorem spc_len : ∀ {l : List Str}, (∀ t ∈ l, t.length ≤ 39) → (spc l).length ≤ 40 * l.length
  | [], _ => by simp [spc]
  | t :: l, h => by
    have h1 := h t List.mem_cons_self
    have h2 := spc_len fun x hx => h x (List.mem_cons_of_mem _ hx)
    rw [spc_cons]; simp only [List.length_cons, List.length_append]; omega
theorem itoa_len6 {n : Int} (h : 0 ≤ n ∧ n ≤ 999999) : (itoaD n).length ≤ 6 := by
  rw [itoa_pos h.1]; exact decD_len (by omega) (by decide)
theorem tkA_len {r : TRec} (h : GoodR r) : (tkA r).length ≤ 3 ∧ ∀ t ∈ tkA r, t.length ≤ 39 := by
  have h1 := itoa_len6 (n := r.Txn) (by have := h.txn; omega)
  have h2 := itoa_len6 (n := r.Time) (by have := h.time; omega)
  have h3 := itoa_len6 (n := r.Lead) (by have := h.lead; omega)
  have a1 : (tkT r).length ≤ 1 ∧ ∀ t ∈ tkT r, t.length ≤ 39 := by
    unfold tkT; split
    · exact ⟨by simp, fun t ht => by cases ht⟩
    · exact ⟨by simp, fun t ht => by rw [List.mem_singleton.1 ht]; omega⟩
  have a2 : (tkM r).length ≤ 1 ∧ ∀ t ∈ tkM r, t.length ≤ 39 := by
    unfold tkM
    refine ⟨by simp, fun t ht => ?_⟩
    rw [List.mem_singleton.1 ht]
    split
    · rw [List.length_cons]; omega
    · decide
  have a3 : (tkL r).length ≤ 1 ∧ ∀ t ∈ tkL r, t.length ≤ 39 := by
    unfold tkL; split
    · exact ⟨by simp, fun t ht => by rw [List.mem_singleton.1 ht, List.length_cons]; omega⟩
    · exact ⟨by simp, fun t ht => by cases ht⟩
  unfold tkA
  refine ⟨by simp only [List.length_append]; omega, fun t ht => ?_⟩
  rcases List.mem_append.1 ht with ht | ht
  · exact a1.2 t ht
  · rcases List.mem_append.1 ht with ht | ht
    · exact a2.2 t ht
    · exact a3.2 t ht
theorem rTok_len {r : TRec} (h : GoodR r) : ∀ k ∈ r.Reads, (rTok k).length ≤ 39 := fun k hk => by
  have := l3KeyR_len (h.reads.2 k hk)
  unfold rTok; rw [List.length_cons]; omega
theorem wTok_len {r : TRec} (h : GoodR r) : ∀ w ∈ r.Writes, (wTok w).length ≤ 39 := fun w hw => by
  have h1 := l3KeyR_len (h.writes.2 w hw).1
  have h2 := l3ValR_len (h.writes.2 w hw).2.1
  unfold wTok; split <;> (simp only [List.length_cons, List.length_append, List.length_nil]; omega)
theorem preR_len {r : TRec} (h : GoodR r) (i : Nat) : (preR r i).length ≤ 807 := by
  have h1 := tkA_len h
  have h2 := rcW_len h.kind
  have h3 := spc_len (l := tkA r ++ (r.Reads.take i).map rTok) fun t ht => by
    rcases List.mem_append.1 ht with ht | ht
    · exact h1.2 t ht
    · obtain ⟨k, hk, rfl⟩ := List.mem_map.1 ht
      exact rTok_len h k (List.mem_of_mem_take hk)
  have h4 := h.reads.1
  unfold preR
  simp only [List.length_append, List.length_map, List.length_take] at h3 ⊢
  omega
theorem preW_len {r : TRec} (h : GoodR r) (i : Nat) : (preW r i).length ≤ 807 := by
  have h1 := tkA_len h
  have h2 := rcW_len h.kind
  have h3 := spc_len (l := tkA r ++ (r.Reads.map rTok ++ (r.Writes.take i).map wTok)) fun t ht => by
    rcases List.mem_append.1 ht with ht | ht
    · exact h1.2 t ht
    · rcases List.mem_append.1 ht with ht | ht
      · obtain ⟨k, hk, rfl⟩ := List.mem_map.1 ht
        exact rTok_len h k hk
      · obtain ⟨k, hk, rfl⟩ := List.mem_map.1 ht
        exact wTok_len h k (List.mem_of_mem_take hk)
  have h4 := h.reads.1
  have h5 := h.writes.1
  unfold preW
  simp only [List.length_append, List.length_map, List.length_take] at h3 ⊢
  omega
theorem recT_len {r : TRec} (h : GoodR r) : (recT r).length ≤ 807 := by rw [← preW_all]; exact preW_len h _
theorem rcW_get {k : Int} (h : 1 ≤ k ∧ k ≤ 4) : (rcWs.map fun s => [AV.str s])[k.toNat]? = some [AV.str (rcW k)] :=
  kind_mem h (fun k => (rcWs.map fun s => [AV.str s])[k.toNat]? = some [AV.str (rcW k)]) rfl rfl rfl rfl
theorem timed_pos {r : TRec} (h : goodRec r = true) : decide (0 < r.Time) = timedR r := by
  have hk := kindR h
  have hg := (goodR h).kind
  unfold timedR
  rw [Bool.eq_iff_iff]
  simp only [decide_eq_true_eq, Bool.or_eq_true, beq_iff_eq]
  rcases (show r.Kind = 1 ∨ r.Kind = 4 ∨ (r.Kind = 2 ∨ r.Kind = 3) by omega) with e | e | e
  · have := (hk.k1 e).2.1; constructor <;> intro _
    · exact .inl (.inl e)
    · omega
  · have := (hk.k4 e).2.1; constructor <;> intro _
    · exact .inl (.inr e)
    · omega
  · obtain ⟨_, h1, h2, _⟩ := hk.k2 e
    constructor
    · intro h0
      right
      cases hy : r.Yes with
      | true => rfl
      | false => have := h2 hy; omega
    · rintro ((h0 | h0) | h0)
      · omega
      · omega
      · have := h1 h0; omega
theorem recT_short {r : TRec} (h : goodRec r = true) (hk : r.Kind ≠ 1) : recT r = rcW r.Kind ++ spc (tkA r) := by
  have hR := kindR h
  have hg := (goodR h).kind
  have e : r.Reads = [] ∧ r.Writes = [] := by
    rcases (show r.Kind = 4 ∨ (r.Kind = 2 ∨ r.Kind = 3) by omega) with e | e
    · exact (hR.k4 e).2.2.2.2
    · exact (hR.k2 e).2.2.2.2
  unfold recT toksR; rw [e.1, e.2]; simp
end Go.M

set_option linter.unusedVariables false
set_option linter.unusedSimpArgs false
namespace Go.M
open Go.AV
structure SzR (c : TRec) (i : Nat) : Prop where
  reads : c.Reads.length ≤ i
  writes : c.Writes.length ≤ i
  size : c.size ≤ 801 * i
theorem szR_zero (k : Int) : SzR (startR k) 0 := ⟨Nat.le_refl _, Nat.le_refl _, by simp [startR, TRec.size, sizeL]⟩
theorem szR_big {c : TRec} {i : Nat} (h : SzR c i) (hi : i ≤ 401) : c.size ≤ 1048576 := by have := h.size; omega
theorem szl_snoc {α : Type} (f : α → Nat) (l : List α) (x : α) : sizeL f (l ++ [x]) = sizeL f l + f x + 1 := by unfold sizeL; simp; omega
theorem szR_keep {c d : TRec} {i : Nat} (h : SzR c i) (h1 : d.Reads = c.Reads) (h2 : d.Writes = c.Writes) : SzR d (i + 1) := by
  obtain ⟨a1, a2, a3⟩ := h
  refine ⟨by rw [h1]; omega, by rw [h2]; omega, ?_⟩
  unfold TRec.size at a3 ⊢
  rw [h1, h2]; omega
theorem szR_read {c : TRec} {i : Nat} (h : SzR c i) {k : Str} (hk : k.length ≤ 400) : SzR (addRead c k) (i + 1) := by
  obtain ⟨a1, a2, a3⟩ := h
  refine ⟨by show (c.Reads ++ [k]).length ≤ _; rw [List.length_append, List.length_singleton]; omega, by show c.Writes.length ≤ _; omega, ?_⟩
  unfold TRec.size at a3 ⊢
  show sizeL _ (c.Reads ++ [k]) + sizeL _ c.Writes ≤ _
  rw [szl_snoc]; omega
theorem szR_write {c : TRec} {i : Nat} (h : SzR c i) {w : TWrite} (hk : w.size ≤ 800) : SzR (addWrite c w) (i + 1) := by
  obtain ⟨a1, a2, a3⟩ := h
  refine ⟨by show c.Reads.length ≤ _; omega, by show (c.Writes ++ [w]).length ≤ _; rw [List.length_append, List.length_singleton]; omega, ?_⟩
  unfold TRec.size at a3 ⊢
  show sizeL _ c.Reads + sizeL _ (c.Writes ++ [w]) ≤ _
  rw [szl_snoc]; omega
theorem wrI_size {s : Str} (h : s.length ≤ 400) : (wrI s).size ≤ 800 := by
  have h1 := cutL_len s 61
  have h2 := trim_len s [45]
  unfold wrI TWrite.size
  split <;> (dsimp only; omega)
theorem wordI_sz {c : TRec} {w : Str} {i : Nat} (h : SzR c i) (hw : w.length ≤ 400) : SzR (wordI c w).1 (i + 1) := by
  unfold wordI
  split
  · exact szR_keep h rfl rfl
  · split
    · exact szR_keep h rfl rfl
    · rename_i b s
      rw [List.length_cons] at hw
      split
      · exact szR_keep h rfl rfl
      · split
        · exact szR_keep h rfl rfl
        · split
          · exact szR_read h (by omega)
          · split
            · exact szR_write h (wrI_size (by omega))
            · exact szR_keep h rfl rfl
theorem foldI_next {r c : TRec} {ws : List Str} {i : Nat} {x : Str} (hx : ws[i]? = some x) (h : foldI r ws = foldI c (ws.drop i)) (hw : (wordI c x).2 = true) : foldI r ws = foldI (wordI c x).1 (ws.drop (i + 1)) := by
  rw [h, drop_some hx]
  show (if (wordI c x).2 = true then _ else _) = _
  rw [if_pos hw]
theorem foldI_stop {r c : TRec} {ws : List Str} {i : Nat} {x : Str} (hx : ws[i]? = some x) (h : foldI r ws = foldI c (ws.drop i)) (hw : (wordI c x).2 = false) : foldI r ws = (emptyR, false) := by
  rw [h, drop_some hx]
  show (if (wordI c x).2 = true then _ else _) = _
  rw [if_neg (by rw [hw]; decide)]
theorem foldI_end {r c : TRec} {ws : List Str} {i : Nat} (hi : ws.length ≤ i) (h : foldI r ws = foldI c (ws.drop i)) : foldI r ws = (c, true) := by
  rw [h, List.drop_eq_nil_of_le hi]; rfl
def TxtOf (s : Str) (r0 : TRec) : Prop := goodRec r0 = true ∧ recT r0 = s ∧ s.length ≤ 400
theorem readTxt_end {s : Str} {r0 : TRec} (h0 : (readTxtR s).1 = r0) {rr : TRec} (hrr : TxtOf s r0 → rr = r0) (h : (!goodRec rr || (recT rr != s)) = true) : readTxtR s = (emptyR, false) := by
  refine readTxtR_no fun hh => ?_
  rw [h0] at hh
  rw [hrr hh, hh.1] at h
  simp [hh.2.1] at h
theorem txt_words {s : Str} {r0 : TRec} {y : Str} {ws : List Str} (hw : splitC 32 s = y :: ws) (h : TxtOf s r0) : y = rcW r0.Kind ∧ ws = toksR r0 := by
  have h1 := recT_split (goodR h.1)
  rw [h.2.1, hw] at h1
  injection h1 with h1 h2
  exact ⟨h1, h2⟩
theorem txt_foldI {s : Str} {r0 : TRec} {y : Str} {ws : List Str} (hw : splitC 32 s = y :: ws) (h : TxtOf s r0) : foldI (startR (idxF rcWs y 0)) ws = (r0, true) := by
  obtain ⟨rfl, rfl⟩ := txt_words hw h
  rw [(rcW_idx (goodR h.1).kind).1]
  exact foldI_back h.1
theorem txt_fullS {s : Str} {r0 : TRec} {y : Str} {ws : List Str} (hw : splitC 32 s = y :: ws) (h : TxtOf s r0) : fullS (kindRS y) ws = r0 := by
  obtain ⟨rfl, rfl⟩ := txt_words hw h
  rw [(rcW_idx (goodR h.1).kind).2]
  exact fullS_back h.1
theorem splitC_cntW (c : UInt8) : ∀ s : Str, (splitC c s).length ≤ s.length + 1
  | [] => by simp [splitC]
  | b :: s => by
    have ih := splitC_cntW c s
    rw [splitC_cons]
    split
    · simp only [List.length_cons]; omega
    · cases h : splitC c s with
      | nil => simp [addP]
      | cons x xs => rw [h] at ih; simp only [addP, List.length_cons] at ih ⊢; omega
theorem wrS_size {s : Str} (h : s.length ≤ 400) : (wrS s).size ≤ 800 := by
  unfold wrS TWrite.size
  split
  · rename_i a b e
    have h1 := splitC_len (c := 61) (s := s) (w := a) (by rw [e]; exact List.mem_cons_self)
    have h2 := splitC_len (c := 61) (s := s) (w := b) (by rw [e]; exact List.mem_cons_of_mem _ List.mem_cons_self)
    dsimp only; omega
  · split
    · dsimp only; rw [List.length_take]; simp; omega
    · dsimp only
      cases e : splitC 61 s with
      | nil => simp
      | cons a l =>
        have h1 := splitC_len (c := 61) (s := s) (w := a) (by rw [e]; exact List.mem_cons_self)
        simp; omega
theorem wordS_sz {c : TRec} {w : Str} {i : Nat} (h : SzR c i) (hw : w.length ≤ 400) : SzR (wordS c w) (i + 1) := by
  unfold wordS
  split
  · exact szR_keep h rfl rfl
  · rename_i b s
    rw [List.length_cons] at hw
    split
    · exact szR_keep h rfl rfl
    · split
      · exact szR_keep h rfl rfl
      · split
        · exact szR_read h (by omega)
        · split
          · exact szR_write h (wrS_size (by omega))
          · exact szR_keep h rfl rfl
theorem foldS_next {r c : TRec} {ws : List Str} {i : Nat} {x : Str} (hx : ws[i]? = some x) (h : c = foldS r (ws.take i)) : wordS c x = foldS r (ws.take (i + 1)) := by
  rw [List.take_add_one, hx, h]
  unfold foldS
  rw [List.foldl_append]; rfl
theorem kindR_t {y u : Str} {k : Nat} (hu : rcWs[k]? = some u) (h : (decide ((0 : Int) < (k : Int)) && (u == y)) = true) : (k : Int) = kindRN y (k + 1) := by
  simp only [Bool.and_eq_true, decide_eq_true_eq, beq_iff_eq] at h
  unfold kindRN
  rw [if_pos ⟨by omega, by rw [hu, h.2]⟩]
theorem kindR_f {y u : Str} {k : Nat} (hu : rcWs[k]? = some u) (h : (decide ((0 : Int) < (k : Int)) && (u == y)) = false) : kindRN y k = kindRN y (k + 1) := by
  conv => rhs; unfold kindRN
  rw [if_neg]
  rintro ⟨h1, h2⟩
  rw [hu] at h2; injection h2 with h2; subst h2
  simp at h; omega
end Go.M

set_option linter.unusedVariables false
set_option linter.unusedSimpArgs false
set_option maxRecDepth 100000
namespace Go.Proofs.YtmlmmgeadombbaaGreatDoor
open Go Go.AV Go.M
attribute [local irreducible] OpW OpA OpS AWP FSpec ESpec RetOk RvDen Le Ev GuardIs
theorem within_spec (a b c : Int) : FSpec Tryz.prog 62 [AV.int a, AV.int b, AV.int c] (AV.bool (within a b c)) := by
  refine spec_of_awp Tryz.func62 rfl Tryz.ntmps62 rfl ?_
  refine awp_seq ?_
  refine awp_region ?_
  refine sq_plain rfl rfl rfl (w_assign rfl ev_cb) ?_
  refine sq_nil ?_
  refine awp_seq ?_
  refine awp_region ?_
  refine sq_plain rfl rfl rfl (w_move rfl (ev_tmp rfl)) ?_
  refine sq_plain rfl rfl rfl (w_move rfl (ev_tmp rfl)) ?_
  refine sq_plain rfl rfl rfl (w_geq rfl (ev_tmp rfl) (ev_tmp rfl)) ?_
  refine sq_plain rfl rfl rfl (w_move rfl (ev_tmp rfl)) ?_
  refine sq_grd rfl rfl (guard_t rfl rfl rfl) (fun hc => w_move rfl (ev_tmp rfl)) ?_
  refine sq_grd rfl rfl (guard_t rfl rfl rfl) (fun hc => w_move rfl (ev_tmp rfl)) ?_
  refine sq_grd rfl rfl (guard_t rfl rfl rfl) (fun hc => w_leq rfl (ev_whn rfl hc) (ev_whn rfl hc)) ?_
  refine sq_plain rfl rfl rfl (w_and rfl (ev_tmp rfl) (evif_w rfl)) ?_
  refine sq_plain rfl rfl rfl (w_assign rfl (ev_tmp rfl)) ?_
  refine sq_nil ?_
  refine awp_ret ?_
  exact retR rfl (rv_tmp' rfl (by first | rfl | (refine congrArg AV.bool ?_; simp_all; done)))
theorem l1In_spec (a b c : Int) : FSpec Tryz.prog 109 [AV.int a, AV.int b, AV.int c] (AV.bool (within a b c)) := by
  refine spec_of_awp Tryz.func109 rfl Tryz.ntmps109 rfl ?_
  refine awp_seq ?_
  refine awp_region ?_
  refine sq_plain rfl rfl rfl (w_assign rfl ev_cb) ?_
  refine sq_nil ?_
  refine awp_seq ?_
  refine awp_region ?_
  refine sq_plain rfl rfl rfl (w_move rfl (ev_tmp rfl)) ?_
  refine sq_plain rfl rfl rfl (w_move rfl (ev_tmp rfl)) ?_
  refine sq_plain rfl rfl rfl (w_geq rfl (ev_tmp rfl) (ev_tmp rfl)) ?_
  refine sq_plain rfl rfl rfl (w_move rfl (ev_tmp rfl)) ?_
  refine sq_grd rfl rfl (guard_t rfl rfl rfl) (fun hc => w_move rfl (ev_tmp rfl)) ?_
  refine sq_grd rfl rfl (guard_t rfl rfl rfl) (fun hc => w_move rfl (ev_tmp rfl)) ?_
  refine sq_grd rfl rfl (guard_t rfl rfl rfl) (fun hc => w_leq rfl (ev_whn rfl hc) (ev_whn rfl hc)) ?_
  refine sq_plain rfl rfl rfl (w_and rfl (ev_tmp rfl) (evif_w rfl)) ?_
  refine sq_plain rfl rfl rfl (w_assign rfl (ev_tmp rfl)) ?_
  refine sq_nil ?_
  refine awp_ret ?_
  exact retR rfl (rv_tmp' rfl (by first | rfl | (refine congrArg AV.bool ?_; simp_all; done)))
theorem lowDig_spec (c : UInt8) : FSpec Tryz.prog 173 [AV.byte c] (AV.bool (lowDig c)) := by
  refine spec_of_awp Tryz.func173 rfl Tryz.ntmps173 rfl ?_
  refine awp_seq ?_
  refine awp_region ?_
  refine sq_plain rfl rfl rfl (w_assign rfl ev_cb) ?_
  refine sq_nil ?_
  refine awp_seq ?_
  refine awp_region ?_
  refine sq_plain rfl rfl rfl (w_move rfl (ev_tmp rfl)) ?_
  refine sq_plain rfl rfl rfl (w_geq rfl (ev_tmp rfl) ev_ci) ?_
  refine sq_plain rfl rfl rfl (w_move rfl (ev_tmp rfl)) ?_
  refine sq_grd rfl rfl (guard_t rfl rfl rfl) (fun hc => w_move rfl (ev_tmp rfl)) ?_
  refine sq_grd rfl rfl (guard_t rfl rfl rfl) (fun hc => w_leq rfl (ev_whn rfl hc) ev_ci) ?_
  refine sq_plain rfl rfl rfl (w_and rfl (ev_tmp rfl) (evif_w rfl)) ?_
  refine sq_plain rfl rfl rfl (w_move rfl (ev_tmp rfl)) ?_
  refine sq_grd rfl rfl (guard_f rfl rfl rfl) (fun hc => w_move rfl (ev_tmp rfl)) ?_
  refine sq_grd rfl rfl (guard_f rfl rfl rfl) (fun hc => w_geq rfl (ev_whn rfl hc) ev_ci) ?_
  refine sq_grd rfl rfl (guard_f rfl rfl rfl) (fun hc => w_move rfl (ev_whn rfl hc)) ?_
  refine sq_grd rfl rfl (guard_wt rfl rfl rfl) (fun hc => w_move rfl (ev_tmp rfl)) ?_
  refine sq_grd rfl rfl (guard_wt rfl rfl rfl) (fun hc => w_leq rfl (ev_whn rfl hc) ev_ci) ?_
  refine sq_grd rfl rfl (guard_f rfl rfl rfl) (fun hc => w_and rfl (ev_whn rfl hc) (evif_w2 rfl hc)) ?_
  refine sq_plain rfl rfl rfl (w_or rfl (ev_tmp rfl) (evif_w rfl)) ?_
  refine sq_plain rfl rfl rfl (w_assign rfl (ev_tmp rfl)) ?_
  refine sq_nil ?_
  refine awp_ret ?_
  exact retR rfl (rv_tmp' rfl (by first | rfl | (refine congrArg AV.bool ?_; simp_all; done)))
theorem idxB_ext (s : Str) (c : UInt8) : ESpec Tryz.prog 211 [AV.str s, AV.byte c] (AV.int (idxB s c)) := espec_mk fun R w vs h => by
  obtain ⟨v, u, rfl, h1, h2⟩ := denV_two h
  have e1 : v = .string ⟨s.toArray⟩ := h1
  have e2 : u = .int .u8 c.toNat := h2
  subst e1; subst e2
  refine ⟨.int .i64 (idxB s c), ?_, rfl⟩
  rw [run_callFunc_indexByte Tryz.func211 (by kernel_rfl) (by kernel_rfl) (by kernel_rfl) (by kernel_rfl), run_indexByte_string]
  simp [idxB]
theorem idxB1_spec (s : Str) (c : UInt8) : FSpec Tryz.prog 194 [AV.str s, AV.byte c] (AV.int (idxB s c)) := by
  refine spec_of_awp Tryz.func194 rfl Tryz.ntmps194 rfl ?_
  refine awp_seq ?_
  refine awp_region ?_
  refine sq_plain rfl rfl rfl (w_assign rfl ev_ci) ?_
  refine sq_nil ?_
  refine awp_seq ?_
  refine awp_region ?_
  refine sq_plain rfl rfl rfl (w_move rfl (ev_tmp rfl)) ?_
  refine sq_plain rfl rfl rfl (w_move rfl (ev_tmp rfl)) ?_
  refine sq_plain rfl rfl rfl (w_ext rfl rfl (idxB_ext _ _) (evl_cons (ev_tmp rfl) (evl_cons (ev_tmp rfl) evl_nil))) ?_
  refine sq_plain rfl rfl rfl (w_assign rfl (ev_tmp rfl)) ?_
  refine sq_nil ?_
  refine awp_ret ?_
  exact retR rfl (rv_tmp' rfl (by first | rfl | (refine congrArg AV.bool ?_; simp_all; done)))
theorem idxB_spec (s : Str) (c : UInt8) : FSpec Tryz.prog 174 [AV.str s, AV.byte c] (AV.int (idxB s c)) := by
  refine spec_of_awp Tryz.func174 rfl Tryz.ntmps174 rfl ?_
  refine awp_seq ?_
  refine awp_region ?_
  refine sq_plain rfl rfl rfl (w_assign rfl ev_ci) ?_
  refine sq_nil ?_
  refine awp_seq ?_
  refine awp_region ?_
  refine sq_plain rfl rfl rfl (w_move rfl (ev_tmp rfl)) ?_
  refine sq_plain rfl rfl rfl (w_move rfl (ev_tmp rfl)) ?_
  refine sq_plain rfl rfl rfl (w_call rfl Tryz.call194 rfl (idxB1_spec _ _) (evl_cons (ev_tmp rfl) (evl_cons (ev_tmp rfl) evl_nil))) ?_
  refine sq_plain rfl rfl rfl (w_assign rfl (ev_tmp rfl)) ?_
  refine sq_nil ?_
  refine awp_ret ?_
  exact retR rfl (rv_tmp' rfl (by first | rfl | (refine congrArg AV.bool ?_; simp_all; done)))
theorem hasB_spec (s o : Str) (hs : s.length ≤ 4611686018427387904) : FSpec Tryz.prog 153 [AV.str s, AV.str o] (AV.bool (hasB s o)) := by
  refine spec_of_awp Tryz.func153 rfl Tryz.ntmps153 rfl ?_
  refine awp_seq ?_
  refine awp_region ?_
  refine sq_plain rfl rfl rfl (w_assign rfl ev_cb) ?_
  refine sq_nil ?_
  refine awp_seq ?_
  refine awp_seq ?_
  refine awp_region ?_
  refine sq_plain rfl rfl rfl (w_move rfl (ev_tmp rfl)) ?_
  refine sq_plain rfl rfl rfl (w_slen rfl Tryz.underlying9 (ev_tmp rfl)) ?_
  refine sq_plain rfl rfl rfl (w_move rfl ev_ci) ?_
  refine sq_nil ?_
  refine awp_block ?_
  refine awp_loop_i [(0, _), (1, _), (7, _)] _ (fun (i : Nat) => i ≤ s.length ∧ hasB s o = hasB (s.drop i) o) (fun (i : Nat) => []) (fun (i : Nat) => [(8, AV.int i)]) (fun (i : Nat) => s.length - i) (0) ?_ (le_env ⟨rfl, rfl, rfl, rfl, trivial⟩) ?_
  · exact ⟨Nat.zero_le _, rfl⟩
  intro i hinv
  refine awp_seq ?_
  refine awp_region ?_
  refine sq_plain rfl rfl rfl (w_lss rfl (ev_tmp rfl) (ev_tmp rfl)) ?_
  refine sq_nil ?_
  refine awp_seq ?_
  refine awp_cond (ev_tmp rfl) ?_ ?_
  · intro h9
    have k9 := of_decide_eq_true h9; try simp only [List.length_map] at k9
    have hlt : i < s.length := by have := of_decide_eq_true h9; omega
    obtain ⟨c, hc⟩ := get_some hlt
    refine awp_skip ?_
    refine awp_seq ?_
    refine awp_block ?_
    refine awp_seq ?_
    refine awp_region ?_
    refine sq_plain rfl rfl rfl (w_move rfl (ev_tmp rfl)) ?_
    refine sq_plain rfl rfl rfl (w_assign rfl (ev_tmp rfl)) ?_
    refine sq_nil ?_
    refine awp_seq ?_
    refine awp_region ?_
    refine sq_plain rfl rfl rfl (w_move rfl (ev_tmp rfl)) ?_
    refine sq_plain rfl rfl rfl (w_move rfl (ev_tmp rfl)) ?_
    refine sq_plain rfl rfl rfl (w_sidx rfl Tryz.underlying9 (ev_tmp rfl) (ev_tmp rfl) (by first | omega | ((try simp only [List.length_map, List.length_take, List.length_cons, List.length_nil, chunks_len, szR] at *); omega) | (have hc2 := hc; simp only [Bool.and_eq_true, Bool.or_eq_true, Bool.or_eq_false_iff, Bool.and_eq_false_iff, Bool.not_eq_true', Bool.not_eq_false', decide_eq_true_eq, decide_eq_false_iff_not, beq_iff_eq, bne_iff_ne, List.length_map, List.length_take] at hc2; omega)) (by assumption)) ?_
    refine sq_plain rfl rfl rfl (w_call rfl Tryz.call173 rfl (lowDig_spec _) (evl_cons (ev_tmp rfl) evl_nil)) ?_
    refine sq_plain rfl rfl rfl (w_not rfl (ev_tmp rfl)) ?_
    refine sq_plain rfl rfl rfl (w_move rfl (ev_tmp rfl)) ?_
    refine sq_grd rfl rfl (guard_t rfl rfl rfl) (fun hc => w_move rfl (ev_tmp rfl)) ?_
    refine sq_grd rfl rfl (guard_t rfl rfl rfl) (fun hc => w_move rfl (ev_tmp rfl)) ?_
    refine sq_grd rfl rfl (guard_t rfl rfl rfl) (fun hc => w_move rfl (ev_tmp rfl)) ?_
    refine sq_grd rfl rfl (guard_t rfl rfl rfl) (fun hc => w_sidx rfl Tryz.underlying9 (ev_whn rfl hc) (ev_whn rfl hc) (by first | omega | ((try simp only [List.length_map, List.length_take, List.length_cons, List.length_nil, chunks_len, szR] at *); omega) | (have hc2 := hc; simp only [Bool.and_eq_true, Bool.or_eq_true, Bool.or_eq_false_iff, Bool.and_eq_false_iff, Bool.not_eq_true', Bool.not_eq_false', decide_eq_true_eq, decide_eq_false_iff_not, beq_iff_eq, bne_iff_ne, List.length_map, List.length_take] at hc2; omega)) (by assumption)) ?_
    refine sq_grd rfl rfl (guard_t rfl rfl rfl) (fun hc => w_call rfl Tryz.call174 rfl (idxB_spec _ _) (evl_cons (ev_whn rfl hc) (evl_cons (ev_whn rfl hc) evl_nil))) ?_
    refine sq_grd rfl rfl (guard_t rfl rfl rfl) (fun hc => w_lss rfl (ev_whn rfl hc) ev_ci) ?_
    refine sq_plain rfl rfl rfl (w_and rfl (ev_tmp rfl) (evif_w rfl)) ?_
    refine sq_nil ?_
    refine awp_cond (ev_tmp rfl) ?_ ?_
    · intro h23
      have hfin : hasB s o = false := by rw [hinv.2, drop_some hc, hasB_cons, h23]; rfl
      refine awp_seq ?_
      refine awp_region ?_
      refine sq_plain rfl rfl rfl (w_assign rfl ev_cb) ?_
      refine sq_nil ?_
      refine awp_ret ?_
      exact retR rfl (rv_tmp' rfl (by first | exact congrArg AV.bool hfin.symm | exact congrArg AV.bool (by rw [hinv.2, List.drop_eq_nil_of_le hge]; rfl)))
    · intro h23
      refine awp_skip ?_
      refine awp_region ?_
      refine sq_plain rfl rfl rfl (w_addi rfl (ev_tmp rfl) ev_ci (by first | omega | ((try simp only [List.length_map, List.length_take, List.length_cons, List.length_nil, chunks_len, szR] at *); omega) | (have hc2 := hc; simp only [Bool.and_eq_true, Bool.or_eq_true, Bool.or_eq_false_iff, Bool.and_eq_false_iff, Bool.not_eq_true', Bool.not_eq_false', decide_eq_true_eq, decide_eq_false_iff_not, beq_iff_eq, bne_iff_ne, List.length_map, List.length_take] at hc2; omega))) ?_
      refine sq_plain rfl rfl rfl (w_move rfl (ev_tmp rfl)) ?_
      refine sq_nil ?_
      refine round_end i (i + 1) ?_ ?_ (le_env ⟨rfl, rfl, rfl, rfl, trivial⟩)
      · exact ⟨by omega, by rw [hinv.2, drop_some hc, hasB_cons, h23]; rfl⟩
      · omega
  · intro h9
    have k9 := of_decide_eq_false h9; try simp only [List.length_map] at k9
    have hge : s.length ≤ i := by have := of_decide_eq_false h9; omega
    refine awp_exit ?_
    refine awp_seq ?_
    refine awp_region ?_
    refine sq_plain rfl rfl rfl (w_assign rfl ev_cb) ?_
    refine sq_nil ?_
    refine awp_ret ?_
    exact retR rfl (rv_tmp' rfl (by first | exact congrArg AV.bool hfin.symm | exact congrArg AV.bool (by rw [hinv.2, List.drop_eq_nil_of_le hge]; rfl)))
theorem l3Bytes_spec (s o : Str) (hs : s.length ≤ 4611686018427387904) (ho : o.length ≤ 4611686018427387904) : FSpec Tryz.prog 163 [AV.str s, AV.str o] (AV.bool (l3Bytes s o)) := by
  refine spec_of_awp Tryz.func163 rfl Tryz.ntmps163 rfl ?_
  refine awp_seq ?_
  refine awp_region ?_
  refine sq_plain rfl rfl rfl (w_assign rfl ev_cb) ?_
  refine sq_nil ?_
  refine awp_seq ?_
  refine awp_seq ?_
  refine awp_region ?_
  refine sq_plain rfl rfl rfl (w_assign rfl ev_ci) ?_
  refine sq_nil ?_
  refine awp_block ?_
  refine awp_loop_i [(0, _), (1, _)] _ (fun (i : Nat) => i ≤ s.length ∧ l3Bytes s o = l3Bytes (s.drop i) o) (fun (i : Nat) => []) (fun (i : Nat) => [(5, AV.int i)]) (fun (i : Nat) => s.length - i) (0) ?_ (le_env ⟨rfl, rfl, rfl, trivial⟩) ?_
  · exact ⟨Nat.zero_le _, rfl⟩
  intro i hinv
  have hinv0 := hinv; clear hinv
  refine awp_seq ?_
  refine awp_seq ?_
  refine awp_region ?_
  refine sq_plain rfl rfl rfl (w_move rfl (ev_tmp rfl)) ?_
  refine sq_plain rfl rfl rfl (w_move rfl (ev_tmp rfl)) ?_
  refine sq_plain rfl rfl rfl (w_slen rfl Tryz.underlying9 (ev_tmp rfl)) ?_
  refine sq_plain rfl rfl rfl (w_lss rfl (ev_tmp rfl) (ev_tmp rfl)) ?_
  refine sq_nil ?_
  refine awp_cond (ev_tmp rfl) ?_ ?_
  · intro h11
    have k11 := of_decide_eq_true h11; try simp only [List.length_map] at k11
    have hlt : i < s.length := by have := of_decide_eq_true h11; omega
    obtain ⟨c, hc⟩ := get_some hlt
    refine awp_skip ?_
    refine awp_seq ?_
    refine awp_block ?_
    refine awp_seq ?_
    refine awp_region ?_
    refine sq_plain rfl rfl rfl (w_move rfl (ev_tmp rfl)) ?_
    refine sq_plain rfl rfl rfl (w_move rfl (ev_tmp rfl)) ?_
    refine sq_plain rfl rfl rfl (w_sidx rfl Tryz.underlying9 (ev_tmp rfl) (ev_tmp rfl) (by first | omega | ((try simp only [List.length_map, List.length_take, List.length_cons, List.length_nil, chunks_len, szR] at *); omega) | (have hc2 := hc; simp only [Bool.and_eq_true, Bool.or_eq_true, Bool.or_eq_false_iff, Bool.and_eq_false_iff, Bool.not_eq_true', Bool.not_eq_false', decide_eq_true_eq, decide_eq_false_iff_not, beq_iff_eq, bne_iff_ne, List.length_map, List.length_take] at hc2; omega)) (by assumption)) ?_
    refine sq_plain rfl rfl rfl (w_geq rfl (ev_tmp rfl) ev_ci) ?_
    refine sq_plain rfl rfl rfl (w_move rfl (ev_tmp rfl)) ?_
    refine sq_grd rfl rfl (guard_t rfl rfl rfl) (fun hc => w_move rfl (ev_tmp rfl)) ?_
    refine sq_grd rfl rfl (guard_t rfl rfl rfl) (fun hc => w_move rfl (ev_tmp rfl)) ?_
    refine sq_grd rfl rfl (guard_t rfl rfl rfl) (fun hc => w_sidx rfl Tryz.underlying9 (ev_whn rfl hc) (ev_whn rfl hc) (by first | omega | ((try simp only [List.length_map, List.length_take, List.length_cons, List.length_nil, chunks_len, szR] at *); omega) | (have hc2 := hc; simp only [Bool.and_eq_true, Bool.or_eq_true, Bool.or_eq_false_iff, Bool.and_eq_false_iff, Bool.not_eq_true', Bool.not_eq_false', decide_eq_true_eq, decide_eq_false_iff_not, beq_iff_eq, bne_iff_ne, List.length_map, List.length_take] at hc2; omega)) (by assumption)) ?_
    refine sq_grd rfl rfl (guard_t rfl rfl rfl) (fun hc => w_leq rfl (ev_whn rfl hc) ev_ci) ?_
    refine sq_plain rfl rfl rfl (w_and rfl (ev_tmp rfl) (evif_w rfl)) ?_
    refine sq_plain rfl rfl rfl (w_move rfl (ev_tmp rfl)) ?_
    refine sq_grd rfl rfl (guard_f rfl rfl rfl) (fun hc => w_move rfl (ev_tmp rfl)) ?_
    refine sq_grd rfl rfl (guard_f rfl rfl rfl) (fun hc => w_move rfl (ev_tmp rfl)) ?_
    refine sq_grd rfl rfl (guard_f rfl rfl rfl) (fun hc => w_sidx rfl Tryz.underlying9 (ev_whn rfl hc) (ev_whn rfl hc) (by first | omega | ((try simp only [List.length_map, List.length_take, List.length_cons, List.length_nil, chunks_len, szR] at *); omega) | (have hc2 := hc; simp only [Bool.and_eq_true, Bool.or_eq_true, Bool.or_eq_false_iff, Bool.and_eq_false_iff, Bool.not_eq_true', Bool.not_eq_false', decide_eq_true_eq, decide_eq_false_iff_not, beq_iff_eq, bne_iff_ne, List.length_map, List.length_take] at hc2; omega)) (by assumption)) ?_
    refine sq_grd rfl rfl (guard_f rfl rfl rfl) (fun hc => w_geq rfl (ev_whn rfl hc) ev_ci) ?_
    refine sq_grd rfl rfl (guard_f rfl rfl rfl) (fun hc => w_move rfl (ev_whn rfl hc)) ?_
    refine sq_grd rfl rfl (guard_wt rfl rfl rfl) (fun hc => w_move rfl (ev_tmp rfl)) ?_
    refine sq_grd rfl rfl (guard_wt rfl rfl rfl) (fun hc => w_move rfl (ev_tmp rfl)) ?_
    refine sq_grd rfl rfl (guard_wt rfl rfl rfl) (fun hc => w_sidx rfl Tryz.underlying9 (ev_whn rfl hc) (ev_whn rfl hc) (by first | omega | ((try simp only [List.length_map, List.length_take, List.length_cons, List.length_nil, chunks_len, szR] at *); omega) | (have hc2 := hc; simp only [Bool.and_eq_true, Bool.or_eq_true, Bool.or_eq_false_iff, Bool.and_eq_false_iff, Bool.not_eq_true', Bool.not_eq_false', decide_eq_true_eq, decide_eq_false_iff_not, beq_iff_eq, bne_iff_ne, List.length_map, List.length_take] at hc2; omega)) (by assumption)) ?_
    refine sq_grd rfl rfl (guard_wt rfl rfl rfl) (fun hc => w_leq rfl (ev_whn rfl hc) ev_ci) ?_
    refine sq_grd rfl rfl (guard_f rfl rfl rfl) (fun hc => w_and rfl (ev_whn rfl hc) (evif_w2 rfl hc)) ?_
    refine sq_plain rfl rfl rfl (w_or rfl (ev_tmp rfl) (evif_w rfl)) ?_
    refine sq_plain rfl rfl rfl (w_assign rfl (ev_tmp rfl)) ?_
    refine sq_nil ?_
    refine awp_seq ?_
    refine awp_seq ?_
    refine awp_region ?_
    refine sq_plain rfl rfl rfl (w_assign rfl ev_ci) ?_
    refine sq_nil ?_
    refine awp_block ?_
    refine awp_loop_i2 [(0, _), (1, _), (5, _), (8, _), (9, _), (10, _), (11, _), (14, _), (15, _), (16, _), (17, _), (18, _), (23, _), (24, _), (35, _)] _ (fun (k : Nat) (b : Bool) => k ≤ o.length ∧ (lowDig c || o.any fun d => ((c.toNat : Int) == (d.toNat : Int))) = (b || (o.drop k).any fun d => ((c.toNat : Int) == (d.toNat : Int)))) (fun (k : Nat) (b : Bool) => []) (fun (k : Nat) (b : Bool) => [(6, AV.bool b), (7, AV.int k)]) (fun (k : Nat) (b : Bool) => o.length - k) (0) (lowDig c) ?_ (le_env ⟨rfl, rfl, rfl, rfl, rfl, rfl, rfl, rfl, rfl, rfl, rfl, rfl, rfl, rfl, rfl, rfl, rfl, trivial⟩) ?_
    · exact ⟨Nat.zero_le _, rfl⟩
    intro k b hinv
    refine awp_seq ?_
    refine awp_seq ?_
    refine awp_region ?_
    refine sq_plain rfl rfl rfl (w_move rfl (ev_tmp rfl)) ?_
    refine sq_plain rfl rfl rfl (w_move rfl (ev_tmp rfl)) ?_
    refine sq_plain rfl rfl rfl (w_slen rfl Tryz.underlying9 (ev_tmp rfl)) ?_
    refine sq_plain rfl rfl rfl (w_lss rfl (ev_tmp rfl) (ev_tmp rfl)) ?_
    refine sq_nil ?_
    refine awp_cond (ev_tmp rfl) ?_ ?_
    · intro h39
      have k39 := of_decide_eq_true h39; try simp only [List.length_map] at k39
      have hlt2 : k < o.length := by have := of_decide_eq_true h39; omega
      obtain ⟨d, hd⟩ := get_some hlt2
      refine awp_skip ?_
      refine awp_seq ?_
      refine awp_block ?_
      refine awp_region_any (by kernel_rfl) (by kernel_rfl) rfl ?_
      refine ch_plain rfl rfl (w_move rfl (ev_tmp rfl)) ?_
      refine ch_plain rfl rfl (w_move rfl (ev_tmp rfl)) ?_
      refine ch_grd rfl (guard_f rfl rfl rfl) (fun hc => w_move rfl (ev_tmp rfl)) ?_
      refine ch_grd rfl (guard_f rfl rfl rfl) (fun hc => w_move rfl (ev_tmp rfl)) ?_
      refine ch_grd rfl (guard_f rfl rfl rfl) (fun hc => w_sidx rfl Tryz.underlying9 (ev_whn rfl hc) (ev_whn rfl hc) (by first | omega | ((try simp only [List.length_map, List.length_take, List.length_cons, List.length_nil, chunks_len, szR] at *); omega) | (have hc2 := hc; simp only [Bool.and_eq_true, Bool.or_eq_true, Bool.or_eq_false_iff, Bool.and_eq_false_iff, Bool.not_eq_true', Bool.not_eq_false', decide_eq_true_eq, decide_eq_false_iff_not, beq_iff_eq, bne_iff_ne, List.length_map, List.length_take] at hc2; omega)) (by assumption)) ?_
      refine ch_grd rfl (guard_f rfl rfl rfl) (fun hc => w_move rfl (ev_tmp rfl)) ?_
      refine ch_grd rfl (guard_f rfl rfl rfl) (fun hc => w_move rfl (ev_tmp rfl)) ?_
      refine ch_grd rfl (guard_f rfl rfl rfl) (fun hc => w_sidx rfl Tryz.underlying9 (ev_whn rfl hc) (ev_whn rfl hc) (by first | omega | ((try simp only [List.length_map, List.length_take, List.length_cons, List.length_nil, chunks_len, szR] at *); omega) | (have hc2 := hc; simp only [Bool.and_eq_true, Bool.or_eq_true, Bool.or_eq_false_iff, Bool.and_eq_false_iff, Bool.not_eq_true', Bool.not_eq_false', decide_eq_true_eq, decide_eq_false_iff_not, beq_iff_eq, bne_iff_ne, List.length_map, List.length_take] at hc2; omega)) (by assumption)) ?_
      refine ch_grd rfl (guard_f rfl rfl rfl) (fun hc => w_eql rfl (ev_whn rfl hc) (ev_whn rfl hc)) ?_
      refine ch_plain rfl rfl (w_or rfl (ev_tmp rfl) (evif_w rfl)) ?_
      refine ch_plain rfl rfl (w_assign rfl (ev_tmp rfl)) ?_
      refine ch_nil ?_
      refine awp_region ?_
      refine sq_plain rfl rfl rfl (w_move rfl (ev_tmp rfl)) ?_
      refine sq_plain rfl rfl rfl (w_addi rfl (ev_tmp rfl) ev_ci (by first | omega | ((try simp only [List.length_map, List.length_take, List.length_cons, List.length_nil, chunks_len, szR] at *); omega) | (have hc2 := hc; simp only [Bool.and_eq_true, Bool.or_eq_true, Bool.or_eq_false_iff, Bool.and_eq_false_iff, Bool.not_eq_true', Bool.not_eq_false', decide_eq_true_eq, decide_eq_false_iff_not, beq_iff_eq, bne_iff_ne, List.length_map, List.length_take] at hc2; omega))) ?_
      refine sq_plain rfl rfl rfl (w_assign rfl (ev_tmp rfl)) ?_
      refine sq_nil ?_
      refine round_end2 k b (k + 1) ((b || ((c.toNat : Int) == (d.toNat : Int)))) ?_ ?_ (le_env ⟨rfl, rfl, rfl, rfl, rfl, rfl, rfl, rfl, rfl, rfl, rfl, rfl, rfl, rfl, rfl, rfl, rfl, trivial⟩)
      · exact ⟨by omega, by rw [hinv.2, drop_some hd, List.any_cons, Bool.or_assoc]⟩
      · omega
    · intro h39
      have k39 := of_decide_eq_false h39; try simp only [List.length_map] at k39
      have hge2 : o.length ≤ k := by have := of_decide_eq_false h39; omega
      have hg : (lowDig c || o.any fun d => ((c.toNat : Int) == (d.toNat : Int))) = b := by rw [hinv.2, List.drop_eq_nil_of_le hge2]; simp
      refine awp_exit ?_
      refine awp_seq ?_
      refine awp_region ?_
      refine sq_plain rfl rfl rfl (w_move rfl (ev_tmp rfl)) ?_
      refine sq_plain rfl rfl rfl (w_not rfl (ev_tmp rfl)) ?_
      refine sq_nil ?_
      refine awp_cond (ev_tmp rfl) ?_ ?_
      · intro h53
        have hfin : l3Bytes s o = false := by rw [hinv0.2, drop_some hc, l3Bytes_cons, hg]; cases b <;> simp_all
        refine awp_seq ?_
        refine awp_region ?_
        refine sq_plain rfl rfl rfl (w_assign rfl ev_cb) ?_
        refine sq_nil ?_
        refine awp_ret ?_
        exact retR rfl (rv_tmp' rfl (by first | exact congrArg AV.bool hfin.symm | exact congrArg AV.bool (by rw [hinv0.2, List.drop_eq_nil_of_le hge]; rfl)))
      · intro h53
        have hb : b = true := by cases b <;> simp_all
        refine awp_skip ?_
        refine awp_region ?_
        refine sq_plain rfl rfl rfl (w_move rfl (ev_tmp rfl)) ?_
        refine sq_plain rfl rfl rfl (w_addi rfl (ev_tmp rfl) ev_ci (by first | omega | ((try simp only [List.length_map, List.length_take, List.length_cons, List.length_nil, chunks_len, szR] at *); omega) | (have hc2 := hc; simp only [Bool.and_eq_true, Bool.or_eq_true, Bool.or_eq_false_iff, Bool.and_eq_false_iff, Bool.not_eq_true', Bool.not_eq_false', decide_eq_true_eq, decide_eq_false_iff_not, beq_iff_eq, bne_iff_ne, List.length_map, List.length_take] at hc2; omega))) ?_
        refine sq_plain rfl rfl rfl (w_assign rfl (ev_tmp rfl)) ?_
        refine sq_nil ?_
        refine round_end i (i + 1) ?_ ?_ (le_env ⟨rfl, rfl, rfl, trivial⟩)
        · exact ⟨by omega, by rw [hinv0.2, drop_some hc, l3Bytes_cons, hg, hb]; rfl⟩
        · omega
  · intro h11
    have k11 := of_decide_eq_false h11; try simp only [List.length_map] at k11
    have hge : s.length ≤ i := by have := of_decide_eq_false h11; omega
    refine awp_exit ?_
    refine awp_seq ?_
    refine awp_region ?_
    refine sq_plain rfl rfl rfl (w_assign rfl ev_cb) ?_
    refine sq_nil ?_
    refine awp_ret ?_
    exact retR rfl (rv_tmp' rfl (by first | exact congrArg AV.bool hfin.symm | exact congrArg AV.bool (by rw [hinv0.2, List.drop_eq_nil_of_le hge]; rfl)))
theorem goodKey_spec (s : Str) (hs : s.length ≤ 4611686018427387904) : FSpec Tryz.prog 118 [AV.str s] (AV.bool (goodKey s)) := by
  refine spec_of_awp Tryz.func118 rfl Tryz.ntmps118 rfl ?_
  refine awp_seq ?_
  refine awp_region ?_
  refine sq_plain rfl rfl rfl (w_assign rfl ev_cb) ?_
  refine sq_nil ?_
  refine awp_seq ?_
  refine awp_region ?_
  refine sq_plain rfl rfl rfl (w_move rfl (ev_tmp rfl)) ?_
  refine sq_plain rfl rfl rfl (w_slen rfl Tryz.underlying9 (ev_tmp rfl)) ?_
  refine sq_plain rfl rfl rfl (w_call rfl Tryz.call62 rfl (within_spec _ _ _) (evl_cons (ev_tmp rfl) (evl_cons ev_ci (evl_cons ev_ci evl_nil)))) ?_
  refine sq_plain rfl rfl rfl (w_move rfl (ev_tmp rfl)) ?_
  refine sq_grd rfl rfl (guard_t rfl rfl rfl) (fun hc => w_move rfl (ev_tmp rfl)) ?_
  refine sq_grd rfl rfl (guard_t rfl rfl rfl) (fun hc => w_call rfl Tryz.call153 rfl (hasB_spec _ _ (by omega)) (evl_cons (ev_whn rfl hc) (evl_cons (ev_cs' (l := [46, 47]) rfl) evl_nil))) ?_
  refine sq_plain rfl rfl rfl (w_and rfl (ev_tmp rfl) (evif_w rfl)) ?_
  refine sq_plain rfl rfl rfl (w_assign rfl (ev_tmp rfl)) ?_
  refine sq_nil ?_
  refine awp_ret ?_
  exact retR rfl (rv_tmp' rfl (by first | rfl | (refine congrArg AV.bool ?_; simp_all; done)))
theorem goodVal_spec (s : Str) (hs : s.length ≤ 4611686018427387904) : FSpec Tryz.prog 138 [AV.str s] (AV.bool (goodVal s)) := by
  refine spec_of_awp Tryz.func138 rfl Tryz.ntmps138 rfl ?_
  refine awp_seq ?_
  refine awp_region ?_
  refine sq_plain rfl rfl rfl (w_assign rfl ev_cb) ?_
  refine sq_nil ?_
  refine awp_seq ?_
  refine awp_region ?_
  refine sq_plain rfl rfl rfl (w_move rfl (ev_tmp rfl)) ?_
  refine sq_plain rfl rfl rfl (w_slen rfl Tryz.underlying9 (ev_tmp rfl)) ?_
  refine sq_plain rfl rfl rfl (w_leq rfl (ev_tmp rfl) ev_ci) ?_
  refine sq_plain rfl rfl rfl (w_move rfl (ev_tmp rfl)) ?_
  refine sq_grd rfl rfl (guard_t rfl rfl rfl) (fun hc => w_move rfl (ev_tmp rfl)) ?_
  refine sq_grd rfl rfl (guard_t rfl rfl rfl) (fun hc => w_call rfl Tryz.call153 rfl (hasB_spec _ _ (by omega)) (evl_cons (ev_whn rfl hc) (evl_cons (ev_cs' (l := [46, 45, 44, 95]) rfl) evl_nil))) ?_
  refine sq_plain rfl rfl rfl (w_and rfl (ev_tmp rfl) (evif_w rfl)) ?_
  refine sq_plain rfl rfl rfl (w_assign rfl (ev_tmp rfl)) ?_
  refine sq_nil ?_
  refine awp_ret ?_
  exact retR rfl (rv_tmp' rfl (by first | rfl | (refine congrArg AV.bool ?_; simp_all; done)))
theorem l3Key_spec (s : Str) (hs : s.length ≤ 4611686018427387904) : FSpec Tryz.prog 143 [AV.str s] (AV.bool (l3Key s)) := by
  refine spec_of_awp Tryz.func143 rfl Tryz.ntmps143 rfl ?_
  refine awp_seq ?_
  refine awp_region ?_
  refine sq_plain rfl rfl rfl (w_assign rfl ev_cb) ?_
  refine sq_nil ?_
  refine awp_seq ?_
  refine awp_region ?_
  refine sq_plain rfl rfl rfl (w_move rfl (ev_tmp rfl)) ?_
  refine sq_plain rfl rfl rfl (w_slen rfl Tryz.underlying9 (ev_tmp rfl)) ?_
  refine sq_plain rfl rfl rfl (w_call rfl Tryz.call109 rfl (l1In_spec _ _ _) (evl_cons (ev_tmp rfl) (evl_cons ev_ci (evl_cons ev_ci evl_nil)))) ?_
  refine sq_plain rfl rfl rfl (w_move rfl (ev_tmp rfl)) ?_
  refine sq_grd rfl rfl (guard_t rfl rfl rfl) (fun hc => w_move rfl (ev_tmp rfl)) ?_
  refine sq_grd rfl rfl (guard_t rfl rfl rfl) (fun hc => w_call rfl Tryz.call163 rfl (l3Bytes_spec _ _ (by omega) (by decide)) (evl_cons (ev_whn rfl hc) (evl_cons (ev_cs' (l := [46, 47]) rfl) evl_nil))) ?_
  refine sq_plain rfl rfl rfl (w_and rfl (ev_tmp rfl) (evif_w rfl)) ?_
  refine sq_plain rfl rfl rfl (w_assign rfl (ev_tmp rfl)) ?_
  refine sq_nil ?_
  refine awp_ret ?_
  exact retR rfl (rv_tmp' rfl (by first | rfl | (refine congrArg AV.bool ?_; simp_all; done)))
end Go.Proofs.YtmlmmgeadombbaaGreatDoor

set_option linter.unusedVariables false
set_option linter.unusedSimpArgs false
set_option maxRecDepth 100000
namespace Go.Proofs.YtmlmmgeadombbaaGreatDoor
open Go Go.AV Go.M
attribute [local irreducible] OpW OpA OpS AWP FSpec ESpec RetOk RvDen Le Ev GuardIs
theorem indexFuncWrite_spec (l : List TWrite) (pre : TWrite → Prop) (f : TWrite → Bool) (hp : ∀ x ∈ l, pre x) : FSpec Tryz.prog 154 [AV.list 3 (l.map TWrite.cs), AV.fun1 Tryz.prog pre (fun a => AV.agg a.cs) (fun a => AV.bool (f a))] (AV.int (idxFrom f l 0)) := by
  refine spec_of_awp Tryz.func154 rfl Tryz.ntmps154 rfl ?_
  refine awp_len (t := 0) rfl fun hl => ?_
  try simp only [List.length_map] at hl
  refine awp_seq ?_
  refine awp_region ?_
  refine sq_plain rfl rfl rfl (w_assign rfl ev_ci) ?_
  refine sq_nil ?_
  refine awp_seq ?_
  refine awp_seq ?_
  refine awp_region ?_
  refine sq_plain rfl rfl rfl (w_move rfl (ev_tmp rfl)) ?_
  refine sq_plain rfl rfl rfl (w_llen rfl Tryz.underlying35 (ev_tmp rfl)) ?_
  refine sq_plain rfl rfl rfl (w_move rfl ev_ci) ?_
  refine sq_nil ?_
  refine awp_block ?_
  refine awp_loop_i [(0, _), (1, _), (7, _)] _ (fun (i : Nat) => i ≤ l.length ∧ idxFrom f l 0 = idxFrom f (l.drop i) i) (fun (i : Nat) => []) (fun (i : Nat) => [(8, AV.int i)]) (fun (i : Nat) => l.length - i) (0) ?_ (le_env ⟨rfl, rfl, rfl, rfl, trivial⟩) ?_
  · exact ⟨Nat.zero_le _, rfl⟩
  intro i hinv
  refine awp_seq ?_
  refine awp_region ?_
  refine sq_plain rfl rfl rfl (w_lss rfl (ev_tmp rfl) (ev_tmp rfl)) ?_
  refine sq_nil ?_
  refine awp_seq ?_
  refine awp_cond (ev_tmp rfl) ?_ ?_
  · intro h9
    have k9 := of_decide_eq_true h9; try simp only [List.length_map] at k9
    have hlt : i < l.length := by omega
    obtain ⟨x, hx⟩ := get_some hlt
    refine awp_skip ?_
    refine awp_seq ?_
    refine awp_block ?_
    refine awp_seq ?_
    refine awp_region ?_
    refine sq_plain rfl rfl rfl (w_move rfl (ev_tmp rfl)) ?_
    refine sq_plain rfl rfl rfl (w_assign rfl (ev_tmp rfl)) ?_
    refine sq_nil ?_
    refine awp_seq ?_
    refine awp_region ?_
    refine sq_plain rfl rfl rfl (w_move rfl (ev_tmp rfl)) ?_
    refine sq_plain rfl rfl rfl (w_move rfl (ev_tmp rfl)) ?_
    refine sq_plain rfl rfl rfl (w_move rfl (ev_tmp rfl)) ?_
    refine sq_plain rfl rfl rfl (w_idxm rfl Tryz.underlying35 Tryz.sizeOf79 (ev_tmp rfl) (ev_tmp rfl) hx (by first | omega | ((try simp only [List.length_map, List.length_take, List.length_cons, List.length_nil, chunks_len, szR] at *); omega) | (have hc2 := hc; simp only [Bool.and_eq_true, Bool.or_eq_true, Bool.or_eq_false_iff, Bool.and_eq_false_iff, Bool.not_eq_true', Bool.not_eq_false', decide_eq_true_eq, decide_eq_false_iff_not, beq_iff_eq, bne_iff_ne, List.length_map, List.length_take] at hc2; omega))) ?_
    refine sq_plain rfl rfl rfl (w_loadE rfl (ev_tmp rfl) Tryz.isAgg79 Tryz.sizeOf79) ?_
    refine sq_plain rfl rfl rfl (w_callv1 rfl (ev_tmp rfl) x (hp x (List.mem_of_getElem? hx)) (ev_tmp rfl)) ?_
    refine sq_nil ?_
    refine awp_cond (ev_tmp rfl) ?_ ?_
    · intro h16
      refine awp_seq ?_
      refine awp_region ?_
      refine sq_plain rfl rfl rfl (w_move rfl (ev_tmp rfl)) ?_
      refine sq_plain rfl rfl rfl (w_assign rfl (ev_tmp rfl)) ?_
      refine sq_nil ?_
      refine awp_ret ?_
      exact retR rfl (rv_tmp' rfl (by first | exact congrArg AV.int (by rw [hinv.2, drop_some hx, idxFrom, h16]; rfl) | exact congrArg AV.int (by rw [hinv.2, List.drop_eq_nil_of_le hge]; rfl)))
    · intro h16
      refine awp_skip ?_
      refine awp_region ?_
      refine sq_plain rfl rfl rfl (w_addi rfl (ev_tmp rfl) ev_ci (by first | omega | ((try simp only [List.length_map, List.length_take, List.length_cons, List.length_nil, chunks_len, szR] at *); omega) | (have hc2 := hc; simp only [Bool.and_eq_true, Bool.or_eq_true, Bool.or_eq_false_iff, Bool.and_eq_false_iff, Bool.not_eq_true', Bool.not_eq_false', decide_eq_true_eq, decide_eq_false_iff_not, beq_iff_eq, bne_iff_ne, List.length_map, List.length_take] at hc2; omega))) ?_
      refine sq_plain rfl rfl rfl (w_move rfl (ev_tmp rfl)) ?_
      refine sq_nil ?_
      refine round_end i (i + 1) ?_ ?_ (le_env ⟨rfl, rfl, rfl, rfl, trivial⟩)
      · exact ⟨by omega, by rw [hinv.2, drop_some hx, idxFrom, h16]; simp⟩
      · omega
  · intro h9
    have k9 := of_decide_eq_false h9; try simp only [List.length_map] at k9
    have hge : l.length ≤ i := by omega
    refine awp_exit ?_
    refine awp_seq ?_
    refine awp_region ?_
    refine sq_plain rfl rfl rfl (w_assign rfl ev_ci) ?_
    refine sq_nil ?_
    refine awp_ret ?_
    exact retR rfl (rv_tmp' rfl (by first | exact congrArg AV.int (by rw [hinv.2, drop_some hx, idxFrom, h16]; rfl) | exact congrArg AV.int (by rw [hinv.2, List.drop_eq_nil_of_le hge]; rfl)))
theorem containsFuncWrite_spec (l : List TWrite) (pre : TWrite → Prop) (f : TWrite → Bool) (hp : ∀ x ∈ l, pre x) : FSpec Tryz.prog 120 [AV.list 3 (l.map TWrite.cs), AV.fun1 Tryz.prog pre (fun a => AV.agg a.cs) (fun a => AV.bool (f a))] (AV.bool (l.any f)) := by
  refine spec_of_awp Tryz.func120 rfl Tryz.ntmps120 rfl ?_
  refine awp_seq ?_
  refine awp_region ?_
  refine sq_plain rfl rfl rfl (w_assign rfl ev_cb) ?_
  refine sq_nil ?_
  refine awp_seq ?_
  refine awp_region ?_
  refine sq_plain rfl rfl rfl (w_move rfl (ev_tmp rfl)) ?_
  refine sq_plain rfl rfl rfl (w_move rfl (ev_tmp rfl)) ?_
  refine sq_plain rfl rfl rfl (w_call rfl Tryz.call154 rfl (indexFuncWrite_spec _ _ _ (by first | (intros; trivial) | assumption | (intros; first | trivial | (simp_all; done)))) (evl_cons (ev_tmp rfl) (evl_cons (ev_tmp rfl) evl_nil))) ?_
  refine sq_plain rfl rfl rfl (w_geq rfl (ev_tmp rfl) ev_ci) ?_
  refine sq_plain rfl rfl rfl (w_assign rfl (ev_tmp rfl)) ?_
  refine sq_nil ?_
  refine awp_ret ?_
  exact retR rfl (rv_tmp' rfl (by exact congrArg AV.bool (idxFrom_any f l 0 (Int.le_refl 0))))
theorem cloneString_spec (l : List Str) (hl : l.length ≤ 4194304) : GSpec Tryz.prog 134 [strs l] [] (fun _ : Value => True) (fun v => [.arr v 9 1 (l.map (fun x => [AV.str x]))]) (fun v => AV.is v) := by
  refine gspec_of_awp Tryz.func134 rfl Tryz.ntmps134 rfl ?_
  refine awp_nilcase 0 rfl ?_ ?_
  · intro hnil
    have hn : l = [] := by cases l with | nil => rfl | cons x l => simp at hnil
    subst hn
    refine awp_seq ?_
    refine awp_region ?_
    refine sq_nilarr 9 1 rfl rfl rfl rfl ev_cnils ?_
    intro v2
    refine sq_nil ?_
    refine awp_seq ?_
    refine awp_seq ?_
    refine awp_region ?_
    refine sq_plain rfl rfl rfl (w_move rfl (ev_tmp rfl)) ?_
    refine sq_plain rfl rfl rfl (w_eqnil rfl Tryz.underlying34 (ev_tmp rfl)) ?_
    refine sq_nil ?_
    refine awp_cond (ev_tmp rfl) ?_ ?_
    · intro h4
      refine awp_seq ?_
      refine awp_region ?_
      refine sq_nilarr 9 1 rfl rfl rfl rfl ev_cnils ?_
      intro v2
      refine sq_nil ?_
      refine awp_ret ?_
      exact retG [0] v2 (trivial) rfl (by rfl) (resR rfl (rv_tmp' rfl (by first | rfl | (refine congrArg AV.bool ?_; simp_all; done))))
    · intro h4
      cases h4
  · skip
    refine awp_seq ?_
    refine awp_region ?_
    refine sq_nilarr 9 1 rfl rfl rfl rfl ev_cnils ?_
    intro v2
    refine sq_nil ?_
    refine awp_seq ?_
    refine awp_seq ?_
    refine awp_region ?_
    refine sq_plain rfl rfl rfl (w_move rfl (ev_tmp rfl)) ?_
    refine sq_plain rfl rfl rfl (w_eqnnl rfl Tryz.underlying34 (ev_tmp rfl)) ?_
    refine sq_nil ?_
    refine awp_cond (ev_tmp rfl) ?_ ?_
    · intro h4
      cases h4
    · intro h4
      refine awp_skip ?_
      refine awp_seq ?_
      refine awp_region ?_
      refine sq_emptyarr rfl rfl rfl rfl Tryz.underlying34 Tryz.sizeOf9 ?_
      intro v5
      refine sq_plain rfl rfl rfl (w_move rfl (ev_tmp rfl)) ?_
      refine sq_append (by' := 16) 0 rfl rfl rfl rfl Tryz.underlying34 Tryz.type9 rfl rfl rfl rfl rfl rfl (ev_tmp rfl) (ev_weaken (ev_tmp rfl) nnl_list) rfl (by first | omega | ((try simp only [List.length_map, List.length_take, List.length_cons, List.length_nil, chunks_len, szR] at *); omega) | (have hc2 := hc; simp only [Bool.and_eq_true, Bool.or_eq_true, Bool.or_eq_false_iff, Bool.and_eq_false_iff, Bool.not_eq_true', Bool.not_eq_false', decide_eq_true_eq, decide_eq_false_iff_not, beq_iff_eq, bne_iff_ne, List.length_map, List.length_take] at hc2; omega)) ?_
      intro v7_1
      refine sq_plain rfl rfl rfl (w_assign rfl (ev_tmp rfl)) ?_
      refine sq_nil ?_
      refine awp_ret ?_
      exact retG [0] v7_1 (trivial) rfl (by rfl) (resR rfl (rv_tmp' rfl (by first | rfl | (refine congrArg AV.bool ?_; simp_all; done))))
end Go.Proofs.YtmlmmgeadombbaaGreatDoor

set_option linter.unusedVariables false
set_option linter.unusedSimpArgs false
set_option maxRecDepth 100000
namespace Go.Proofs.YtmlmmgeadombbaaGreatDoor
open Go Go.AV Go.M
attribute [local irreducible] OpW OpA OpS AWP FSpec ESpec RetOk RvDen Le Ev GuardIs
theorem isTime_spec (t : Int) : FSpec Tryz.prog 61 [AV.int t] (AV.bool (isTime t)) := by
  refine spec_of_awp Tryz.func61 rfl Tryz.ntmps61 rfl ?_
  refine awp_seq ?_
  refine awp_region ?_
  refine sq_plain rfl rfl rfl (w_assign rfl ev_cb) ?_
  refine sq_nil ?_
  refine awp_seq ?_
  refine awp_region ?_
  refine sq_plain rfl rfl rfl (w_move rfl (ev_tmp rfl)) ?_
  refine sq_plain rfl rfl rfl (w_call rfl Tryz.call62 rfl (within_spec _ _ _) (evl_cons (ev_tmp rfl) (evl_cons ev_ci (evl_cons ev_ci evl_nil)))) ?_
  refine sq_plain rfl rfl rfl (w_assign rfl (ev_tmp rfl)) ?_
  refine sq_nil ?_
  refine awp_ret ?_
  exact retR rfl (rv_tmp' rfl (by first | rfl | (refine congrArg AV.bool ?_; simp_all; done)))
theorem isStored_spec (s : Str) (g : Bool) (hs : s.length ≤ 4611686018427387904) : FSpec Tryz.prog 122 [AV.str s, AV.bool g] (AV.bool (isStored s g)) := by
  refine spec_of_awp Tryz.func122 rfl Tryz.ntmps122 rfl ?_
  refine awp_seq ?_
  refine awp_region ?_
  refine sq_plain rfl rfl rfl (w_assign rfl ev_cb) ?_
  refine sq_nil ?_
  refine awp_seq ?_
  refine awp_region ?_
  refine sq_plain rfl rfl rfl (w_move rfl (ev_tmp rfl)) ?_
  refine sq_plain rfl rfl rfl (w_call rfl Tryz.call138 rfl (goodVal_spec _ (by omega)) (evl_cons (ev_tmp rfl) evl_nil)) ?_
  refine sq_plain rfl rfl rfl (w_move rfl (ev_tmp rfl)) ?_
  refine sq_grd rfl rfl (guard_t rfl rfl rfl) (fun hc => w_move rfl (ev_tmp rfl)) ?_
  refine sq_grd rfl rfl (guard_t rfl rfl rfl) (fun hc => w_move rfl (ev_whn rfl hc)) ?_
  refine sq_grd rfl rfl (guard_wt rfl rfl rfl) (fun hc => w_move rfl (ev_tmp rfl)) ?_
  refine sq_grd rfl rfl (guard_wt rfl rfl rfl) (fun hc => w_sneq rfl (ev_whn rfl hc) (ev_cs' (l := []) rfl)) ?_
  refine sq_grd rfl rfl (guard_t rfl rfl rfl) (fun hc => w_and rfl (ev_whn rfl hc) (evif_w2 rfl hc)) ?_
  refine sq_grd rfl rfl (guard_t rfl rfl rfl) (fun hc => w_not rfl (ev_whn rfl hc)) ?_
  refine sq_plain rfl rfl rfl (w_and rfl (ev_tmp rfl) (evif_w rfl)) ?_
  refine sq_plain rfl rfl rfl (w_assign rfl (ev_tmp rfl)) ?_
  refine sq_nil ?_
  refine awp_ret ?_
  exact retR rfl (rv_tmp' rfl (by first | rfl | (refine congrArg AV.bool ?_; simp_all; done)))
theorem l3Val_spec (s : Str) (hs : s.length ≤ 4611686018427387904) : FSpec Tryz.prog 144 [AV.str s] (AV.bool (l3Val s)) := by
  refine spec_of_awp Tryz.func144 rfl Tryz.ntmps144 rfl ?_
  refine awp_seq ?_
  refine awp_region ?_
  refine sq_plain rfl rfl rfl (w_assign rfl ev_cb) ?_
  refine sq_nil ?_
  refine awp_seq ?_
  refine awp_region ?_
  refine sq_plain rfl rfl rfl (w_move rfl (ev_tmp rfl)) ?_
  refine sq_plain rfl rfl rfl (w_slen rfl Tryz.underlying9 (ev_tmp rfl)) ?_
  refine sq_plain rfl rfl rfl (w_leq rfl (ev_tmp rfl) ev_ci) ?_
  refine sq_plain rfl rfl rfl (w_move rfl (ev_tmp rfl)) ?_
  refine sq_grd rfl rfl (guard_t rfl rfl rfl) (fun hc => w_move rfl (ev_tmp rfl)) ?_
  refine sq_grd rfl rfl (guard_t rfl rfl rfl) (fun hc => w_call rfl Tryz.call163 rfl (l3Bytes_spec _ _ (by omega) (by decide)) (evl_cons (ev_whn rfl hc) (evl_cons (ev_cs' (l := [46, 45, 44, 95]) rfl) evl_nil))) ?_
  refine sq_plain rfl rfl rfl (w_and rfl (ev_tmp rfl) (evif_w rfl)) ?_
  refine sq_plain rfl rfl rfl (w_assign rfl (ev_tmp rfl)) ?_
  refine sq_nil ?_
  refine awp_ret ?_
  exact retR rfl (rv_tmp' rfl (by first | rfl | (refine congrArg AV.bool ?_; simp_all; done)))
theorem l3Write_spec (k s : Str) (g : Bool) (hk : k.length ≤ 4611686018427387904) (hs : s.length ≤ 4611686018427387904) : FSpec Tryz.prog 152 [AV.str k, AV.str s, AV.bool g] (AV.bool (l3Write k s g)) := by
  refine spec_of_awp Tryz.func152 rfl Tryz.ntmps152 rfl ?_
  refine awp_seq ?_
  refine awp_region ?_
  refine sq_plain rfl rfl rfl (w_assign rfl ev_cb) ?_
  refine sq_nil ?_
  refine awp_seq ?_
  refine awp_region ?_
  refine sq_plain rfl rfl rfl (w_move rfl (ev_tmp rfl)) ?_
  refine sq_plain rfl rfl rfl (w_call rfl Tryz.call143 rfl (l3Key_spec _ (by omega)) (evl_cons (ev_tmp rfl) evl_nil)) ?_
  refine sq_plain rfl rfl rfl (w_move rfl (ev_tmp rfl)) ?_
  refine sq_grd rfl rfl (guard_t rfl rfl rfl) (fun hc => w_move rfl (ev_tmp rfl)) ?_
  refine sq_grd rfl rfl (guard_t rfl rfl rfl) (fun hc => w_call rfl Tryz.call144 rfl (l3Val_spec _ (by omega)) (evl_cons (ev_whn rfl hc) evl_nil)) ?_
  refine sq_plain rfl rfl rfl (w_and rfl (ev_tmp rfl) (evif_w rfl)) ?_
  refine sq_plain rfl rfl rfl (w_move rfl (ev_tmp rfl)) ?_
  refine sq_grd rfl rfl (guard_t rfl rfl rfl) (fun hc => w_move rfl (ev_tmp rfl)) ?_
  refine sq_grd rfl rfl (guard_t rfl rfl rfl) (fun hc => w_not rfl (ev_whn rfl hc)) ?_
  refine sq_grd rfl rfl (guard_t rfl rfl rfl) (fun hc => w_move rfl (ev_whn rfl hc)) ?_
  refine sq_grd rfl rfl (guard_wf rfl rfl rfl) (fun hc => w_move rfl (ev_tmp rfl)) ?_
  refine sq_grd rfl rfl (guard_wf rfl rfl rfl) (fun hc => w_seql rfl (ev_whn rfl hc) (ev_cs' (l := []) rfl)) ?_
  refine sq_grd rfl rfl (guard_t rfl rfl rfl) (fun hc => w_or rfl (ev_whn rfl hc) (evif_w2 rfl hc)) ?_
  refine sq_plain rfl rfl rfl (w_and rfl (ev_tmp rfl) (evif_w rfl)) ?_
  refine sq_plain rfl rfl rfl (w_assign rfl (ev_tmp rfl)) ?_
  refine sq_nil ?_
  refine awp_ret ?_
  exact retR rfl (rv_tmp' rfl (by first | rfl | (refine congrArg AV.bool ?_; simp_all; done)))
end Go.Proofs.YtmlmmgeadombbaaGreatDoor

set_option linter.unusedVariables false
set_option linter.unusedSimpArgs false
set_option maxRecDepth 100000
namespace Go.Proofs.YtmlmmgeadombbaaGreatDoor
open Go Go.AV Go.M
attribute [local irreducible] OpW OpA OpS AWP FSpec ESpec RetOk RvDen Le Ev GuardIs
end Go.Proofs.YtmlmmgeadombbaaGreatDoor

set_option linter.unusedVariables false
set_option linter.unusedSimpArgs false
set_option maxRecDepth 100000
namespace Go.Proofs.YtmlmmgeadombbaaGreatDoor
open Go Go.AV Go.M
attribute [local irreducible] OpW OpA OpS AWP FSpec ESpec RetOk RvDen Le Ev GuardIs
theorem sizeL_keys {l : List TWrite} (h : sizeL TWrite.size l ≤ 4194304) : ∀ k ∈ wKeys l, k.length ≤ 4611686018427387904 := fun k hk => by
  obtain ⟨w, hw, rfl⟩ := List.mem_map.1 hk
  have := sizeL_mem (f := TWrite.size) hw
  have h2 : w.size = w.Key.length + w.Val.length := rfl
  omega
theorem areRising_spec (l : List Str) (hs : ∀ k ∈ l, k.length ≤ 4611686018427387904) : FSpec Tryz.prog 63 [strs l] (AV.bool (areRising l)) := by
  refine spec_of_awp Tryz.func63 rfl Tryz.ntmps63 rfl ?_
  refine awp_len (t := 0) rfl fun hl => ?_
  try simp only [List.length_map] at hl
  refine awp_seq ?_
  refine awp_region ?_
  refine sq_plain rfl rfl rfl (w_assign rfl ev_cb) ?_
  refine sq_nil ?_
  refine awp_seq ?_
  refine awp_seq ?_
  refine awp_region ?_
  refine sq_plain rfl rfl rfl (w_move rfl (ev_tmp rfl)) ?_
  refine sq_plain rfl rfl rfl (w_llen rfl Tryz.underlying34 (ev_tmp rfl)) ?_
  refine sq_plain rfl rfl rfl (w_move rfl ev_ci) ?_
  refine sq_nil ?_
  refine awp_block ?_
  refine awp_loop_i [(0, _), (5, _), (6, _)] _ (fun (i : Nat) => i ≤ l.length ∧ areRising l = ((l.drop i).all goodKey && adj Op.bytesLess (l.drop (i - 1)))) (fun (i : Nat) => []) (fun (i : Nat) => [(7, AV.int i)]) (fun (i : Nat) => l.length - i) (0) ?_ (le_env ⟨rfl, rfl, rfl, rfl, trivial⟩) ?_
  · exact ⟨Nat.zero_le _, rfl⟩
  intro i hinv
  refine awp_seq ?_
  refine awp_region ?_
  refine sq_plain rfl rfl rfl (w_lss rfl (ev_tmp rfl) (ev_tmp rfl)) ?_
  refine sq_nil ?_
  refine awp_seq ?_
  refine awp_cond (ev_tmp rfl) ?_ ?_
  · intro h8
    have k8 := of_decide_eq_true h8; try simp only [List.length_map] at k8
    have hlt : i < l.length := by omega
    obtain ⟨x, hx⟩ := get_some hlt
    obtain ⟨y, hy⟩ := get_some (show i - 1 < l.length by omega)
    have hsx := hs x (List.mem_of_getElem? hx)
    refine awp_skip ?_
    refine awp_seq ?_
    refine awp_block ?_
    refine awp_seq ?_
    refine awp_region ?_
    refine sq_plain rfl rfl rfl (w_move rfl (ev_tmp rfl)) ?_
    refine sq_plain rfl rfl rfl (w_idxm rfl Tryz.underlying34 Tryz.sizeOf9 (ev_tmp rfl) (ev_tmp rfl) hx (by first | omega | ((try simp only [List.length_map, List.length_take, List.length_cons, List.length_nil, chunks_len, szR] at *); omega) | (have hc2 := hc; simp only [Bool.and_eq_true, Bool.or_eq_true, Bool.or_eq_false_iff, Bool.and_eq_false_iff, Bool.not_eq_true', Bool.not_eq_false', decide_eq_true_eq, decide_eq_false_iff_not, beq_iff_eq, bne_iff_ne, List.length_map, List.length_take] at hc2; omega))) ?_
    refine sq_plain rfl rfl rfl (w_loadE1 rfl (ev_tmp rfl) Tryz.isAgg9 rfl) ?_
    refine sq_plain rfl rfl rfl (w_assign rfl (ev_tmp rfl)) ?_
    refine sq_plain rfl rfl rfl (w_assign rfl (ev_tmp rfl)) ?_
    refine sq_nil ?_
    refine awp_seq ?_
    refine awp_region ?_
    refine sq_plain rfl rfl rfl (w_move rfl (ev_tmp rfl)) ?_
    refine sq_plain rfl rfl rfl (w_call rfl Tryz.call118 rfl (goodKey_spec _ (by omega)) (evl_cons (ev_tmp rfl) evl_nil)) ?_
    refine sq_plain rfl rfl rfl (w_not rfl (ev_tmp rfl)) ?_
    refine sq_plain rfl rfl rfl (w_move rfl (ev_tmp rfl)) ?_
    refine sq_grd rfl rfl (guard_f rfl rfl rfl) (fun hc => w_move rfl (ev_tmp rfl)) ?_
    refine sq_grd rfl rfl (guard_f rfl rfl rfl) (fun hc => w_gtr rfl (ev_whn rfl hc) ev_ci) ?_
    refine sq_grd rfl rfl (guard_f rfl rfl rfl) (fun hc => w_move rfl (ev_whn rfl hc)) ?_
    refine sq_grd rfl rfl (guard_wt rfl rfl rfl) (fun hc => w_move rfl (ev_tmp rfl)) ?_
    refine sq_grd rfl rfl (guard_wt rfl rfl rfl) (fun hc => w_move rfl (ev_tmp rfl)) ?_
    refine sq_grd rfl rfl (guard_wt rfl rfl rfl) (fun hc => w_move rfl (ev_tmp rfl)) ?_
    refine sq_grd rfl rfl (guard_wt rfl rfl rfl) (fun hc => w_subi rfl (ev_whn rfl hc) ev_ci (by first | omega | ((try simp only [List.length_map, List.length_take, List.length_cons, List.length_nil, chunks_len, szR] at *); omega) | (have hc2 := hc; simp only [Bool.and_eq_true, Bool.or_eq_true, Bool.or_eq_false_iff, Bool.and_eq_false_iff, Bool.not_eq_true', Bool.not_eq_false', decide_eq_true_eq, decide_eq_false_iff_not, beq_iff_eq, bne_iff_ne, List.length_map, List.length_take] at hc2; omega))) ?_
    refine sq_grd rfl rfl (guard_wt rfl rfl rfl) (fun hc => w_idxm rfl Tryz.underlying34 Tryz.sizeOf9 (ev_whn rfl hc) (ev_whn rfl hc) hy (by first | omega | ((try simp only [List.length_map, List.length_take, List.length_cons, List.length_nil, chunks_len, szR] at *); omega) | (have hc2 := hc; simp only [Bool.and_eq_true, Bool.or_eq_true, Bool.or_eq_false_iff, Bool.and_eq_false_iff, Bool.not_eq_true', Bool.not_eq_false', decide_eq_true_eq, decide_eq_false_iff_not, beq_iff_eq, bne_iff_ne, List.length_map, List.length_take] at hc2; omega))) ?_
    refine sq_grd rfl rfl (guard_wt rfl rfl rfl) (fun hc => w_loadE1 rfl (ev_whn rfl hc) Tryz.isAgg9 rfl) ?_
    refine sq_grd rfl rfl (guard_wt rfl rfl rfl) (fun hc => w_sleq rfl (ev_whn rfl hc) (ev_whn rfl hc)) ?_
    refine sq_grd rfl rfl (guard_f rfl rfl rfl) (fun hc => w_and rfl (ev_whn rfl hc) (evif_w2 rfl hc)) ?_
    refine sq_plain rfl rfl rfl (w_or rfl (ev_tmp rfl) (evif_w rfl)) ?_
    refine sq_nil ?_
    refine awp_cond (ev_tmp rfl) ?_ ?_
    · intro h27
      have hfin : areRising l = false := by rw [hinv.2]; cases hg : goodKey x with | false => (rw [all_stop hx hg]; simp) | true => (have hb : 0 < i ∧ Op.bytesLess y x = false := (by have := bytesLess_tri y x; simp_all; try grind); rw [adj_stop hx hy hb.1 hb.2]; simp)
      refine awp_seq ?_
      refine awp_region ?_
      refine sq_plain rfl rfl rfl (w_assign rfl ev_cb) ?_
      refine sq_nil ?_
      refine awp_ret ?_
      exact retR rfl (rv_tmp' rfl (by first | exact congrArg AV.bool hfin.symm | exact congrArg AV.bool (by rw [hinv.2, all_end hge, adj_end hge]; rfl)))
    · intro h27
      have hg : goodKey x = true ∧ (0 < i → Op.bytesLess y x = true) := by have := bytesLess_tri y x; simp_all
      refine awp_skip ?_
      refine awp_region ?_
      refine sq_plain rfl rfl rfl (w_addi rfl (ev_tmp rfl) ev_ci (by first | omega | ((try simp only [List.length_map, List.length_take, List.length_cons, List.length_nil, chunks_len, szR] at *); omega) | (have hc2 := hc; simp only [Bool.and_eq_true, Bool.or_eq_true, Bool.or_eq_false_iff, Bool.and_eq_false_iff, Bool.not_eq_true', Bool.not_eq_false', decide_eq_true_eq, decide_eq_false_iff_not, beq_iff_eq, bne_iff_ne, List.length_map, List.length_take] at hc2; omega))) ?_
      refine sq_plain rfl rfl rfl (w_move rfl (ev_tmp rfl)) ?_
      refine sq_nil ?_
      refine round_end i (i + 1) ?_ ?_ (le_env ⟨rfl, rfl, rfl, rfl, trivial⟩)
      · exact ⟨by omega, by rw [hinv.2, all_step hx hg.1, adj_step hx hy hg.2]⟩
      · omega
  · intro h8
    have k8 := of_decide_eq_false h8; try simp only [List.length_map] at k8
    have hge : l.length ≤ i := by omega
    refine awp_exit ?_
    refine awp_seq ?_
    refine awp_region ?_
    refine sq_plain rfl rfl rfl (w_assign rfl ev_cb) ?_
    refine sq_nil ?_
    refine awp_ret ?_
    exact retR rfl (rv_tmp' rfl (by first | exact congrArg AV.bool hfin.symm | exact congrArg AV.bool (by rw [hinv.2, all_end hge, adj_end hge]; rfl)))
theorem writeKeys_spec (l : List TWrite) (hs : sizeL TWrite.size l ≤ 4194304) : FSpec Tryz.prog 119 [AV.list 3 (l.map TWrite.cs)] (strs (wKeys l)) := by
  have hl : l.length ≤ 4194304 := Nat.le_trans sizeL_len hs
  refine spec_of_awp Tryz.func119 rfl Tryz.ntmps119 rfl ?_
  refine awp_seq ?_
  refine awp_region ?_
  refine sq_plain rfl rfl rfl (w_assign rfl (ev_cnil (sz := 1))) ?_
  refine sq_nil ?_
  refine awp_seq ?_
  refine awp_region ?_
  refine sq_emptyarr rfl rfl rfl rfl Tryz.underlying34 Tryz.sizeOf9 ?_
  intro v6
  refine sq_plain rfl rfl rfl (w_assign rfl (ev_tmp rfl)) ?_
  refine sq_nil ?_
  refine awp_seq ?_
  refine awp_seq ?_
  refine awp_region ?_
  refine sq_plain rfl rfl rfl (w_move rfl (ev_tmp rfl)) ?_
  refine sq_plain rfl rfl rfl (w_llen rfl Tryz.underlying35 (ev_tmp rfl)) ?_
  refine sq_plain rfl rfl rfl (w_move rfl ev_ci) ?_
  refine sq_nil ?_
  refine awp_block ?_
  refine awp_loop_i2 [(2, _), (7, _), (8, _)] _ (fun (i : Nat) (v : Value) => i ≤ l.length) (fun (i : Nat) (v : Value) => [.arr v 9 1 ((l.take i).map fun w => [AV.str w.Key])]) (fun (i : Nat) (v : Value) => [(3, AV.is v), (9, AV.int i)]) (fun (i : Nat) (v : Value) => l.length - i) (0) (v6) ?_ (le_eq (by rfl) ⟨rfl, rfl, rfl, rfl, rfl, trivial⟩) ?_
  · exact Nat.zero_le _
  intro i v hinv
  refine awp_seq ?_
  refine awp_region ?_
  refine sq_plain rfl rfl rfl (w_lss rfl (ev_tmp rfl) (ev_tmp rfl)) ?_
  refine sq_nil ?_
  refine awp_seq ?_
  refine awp_cond (ev_tmp rfl) ?_ ?_
  · intro h10
    have k10 := of_decide_eq_true h10; try simp only [List.length_map] at k10
    have hlt : i < l.length := by omega
    obtain ⟨x, hx⟩ := get_some hlt
    refine awp_skip ?_
    refine awp_seq ?_
    refine awp_block ?_
    refine awp_seq ?_
    refine awp_region ?_
    refine sq_plain rfl rfl rfl (w_idxm rfl Tryz.underlying35 Tryz.sizeOf79 (ev_tmp rfl) (ev_tmp rfl) hx (by first | omega | ((try simp only [List.length_map, List.length_take, List.length_cons, List.length_nil, chunks_len, szR] at *); omega) | (have hc2 := hc; simp only [Bool.and_eq_true, Bool.or_eq_true, Bool.or_eq_false_iff, Bool.and_eq_false_iff, Bool.not_eq_true', Bool.not_eq_false', decide_eq_true_eq, decide_eq_false_iff_not, beq_iff_eq, bne_iff_ne, List.length_map, List.length_take] at hc2; omega))) ?_
    refine sq_plain rfl rfl rfl (w_loadE rfl (ev_tmp rfl) Tryz.isAgg79 Tryz.sizeOf79) ?_
    refine sq_alloc rfl rfl rfl rfl Tryz.zeroValue79 rfl ?_
    intro b5
    refine sq_storeB0 0 rfl rfl rfl (ev_tmp rfl) (ev_tmp rfl) (as_agg _) rfl Tryz.sizeOf79 rfl ?_
    refine sq_nil ?_
    refine awp_region ?_
    refine sq_plain rfl rfl rfl (w_move rfl (ev_tmp rfl)) ?_
    refine sq_plain rfl rfl rfl (w_fldBn 0 rfl Tryz.underlying79 rfl Tryz.sizeOf9 (ev_tmp rfl) rfl) ?_
    refine sq_plain rfl rfl rfl (w_loadB1 0 rfl (ev_tmp rfl) rfl Tryz.isAgg9 rfl) ?_
    refine sq_plain rfl rfl rfl (w_bslice rfl Tryz.underlying34 Tryz.sizeOf9 Tryz.zeroValue9 rfl rfl rfl rfl (bp_cons (ev_tmp rfl) (as_str _) bp_nil) rfl rfl) ?_
    refine sq_append (by' := 16) 1 rfl rfl rfl rfl Tryz.underlying34 Tryz.type9 rfl rfl rfl rfl rfl rfl (ev_tmp rfl) (ev_tmp rfl) rfl (by first | omega | ((try simp only [List.length_map, List.length_take, List.length_cons, List.length_nil, chunks_len, szR] at *); omega) | (have hc2 := hc; simp only [Bool.and_eq_true, Bool.or_eq_true, Bool.or_eq_false_iff, Bool.and_eq_false_iff, Bool.not_eq_true', Bool.not_eq_false', decide_eq_true_eq, decide_eq_false_iff_not, beq_iff_eq, bne_iff_ne, List.length_map, List.length_take] at hc2; omega)) ?_
    intro v17_1
    refine sq_plain rfl rfl rfl (w_assign rfl (ev_tmp rfl)) ?_
    refine sq_nil ?_
    refine awp_region ?_
    refine sq_plain rfl rfl rfl (w_addi rfl (ev_tmp rfl) ev_ci (by first | omega | ((try simp only [List.length_map, List.length_take, List.length_cons, List.length_nil, chunks_len, szR] at *); omega) | (have hc2 := hc; simp only [Bool.and_eq_true, Bool.or_eq_true, Bool.or_eq_false_iff, Bool.and_eq_false_iff, Bool.not_eq_true', Bool.not_eq_false', decide_eq_true_eq, decide_eq_false_iff_not, beq_iff_eq, bne_iff_ne, List.length_map, List.length_take] at hc2; omega))) ?_
    refine sq_plain rfl rfl rfl (w_move rfl (ev_tmp rfl)) ?_
    refine sq_nil ?_
    refine round_end2 i v (i + 1) (v17_1) ?_ ?_ (le_dropeq 1 (by exact congrArg (fun z => [Own.arr v17_1 9 1 z]) (take_map_succ (f := fun w : TWrite => [AV.str w.Key]) hx)) ⟨rfl, rfl, rfl, rfl, rfl, trivial⟩)
    · omega
    · omega
  · intro h10
    have k10 := of_decide_eq_false h10; try simp only [List.length_map] at k10
    have hge : l.length ≤ i := by omega
    rw [List.take_of_length_le hge]
    refine awp_exit ?_
    refine awp_seq ?_
    refine awp_region ?_
    refine sq_plain rfl rfl rfl (w_move rfl (ev_tmp rfl)) ?_
    refine sq_plain rfl rfl rfl (w_assign rfl (ev_tmp rfl)) ?_
    refine sq_nil ?_
    refine awp_ret ?_
    refine ret_seal 0 2 rfl rfl ?_
    exact retR rfl (rv_tmp' rfl (by exact congrArg (AV.list 1) (by unfold wKeys; rw [List.map_map]; rfl)))
theorem goodWrites1_spec (w : TWrite) (h : w.size ≤ 4194304) : FSpec Tryz.prog 121 [AV.agg w.cs] (AV.bool (!isStored w.Val w.Gone)) := by
  unfold TWrite.size at h
  refine spec_of_awp Tryz.func121 rfl Tryz.ntmps121 rfl ?_
  refine awp_seq ?_
  refine awp_region ?_
  refine sq_box rfl rfl rfl rfl (ev_tmp rfl) ?_
  intro b1
  refine sq_plain rfl rfl rfl (w_assign rfl ev_cb) ?_
  refine sq_nil ?_
  refine awp_seq ?_
  refine awp_region ?_
  refine sq_plain rfl rfl rfl (w_fldBn 1 rfl Tryz.underlying79 rfl Tryz.sizeOf9 (ev_tmp rfl) rfl) ?_
  refine sq_plain rfl rfl rfl (w_loadB1 0 rfl (ev_tmp rfl) rfl Tryz.isAgg9 rfl) ?_
  refine sq_plain rfl rfl rfl (w_fldBn 2 rfl Tryz.underlying79 rfl Tryz.sizeOf4 (ev_tmp rfl) rfl) ?_
  refine sq_plain rfl rfl rfl (w_loadB1 0 rfl (ev_tmp rfl) rfl Tryz.isAgg4 rfl) ?_
  refine sq_plain rfl rfl rfl (w_call rfl Tryz.call122 rfl (isStored_spec _ _ (by omega)) (evl_cons (ev_tmp rfl) (evl_cons (ev_tmp rfl) evl_nil))) ?_
  refine sq_plain rfl rfl rfl (w_not rfl (ev_tmp rfl)) ?_
  refine sq_plain rfl rfl rfl (w_assign rfl (ev_tmp rfl)) ?_
  refine sq_nil ?_
  refine awp_ret ?_
  exact retR rfl (rv_tmp' rfl (by first | rfl | (refine congrArg AV.bool ?_; simp_all; done)))
theorem goodWrites_spec (l : List TWrite) (hs : sizeL TWrite.size l ≤ 4194304) : FSpec Tryz.prog 64 [AV.list 3 (l.map TWrite.cs)] (AV.bool (goodWrites l)) := by
  have hm : ∀ x ∈ l, x.size ≤ 4194304 := fun x hx => Nat.le_trans (sizeL_mem hx) hs
  refine spec_of_awp Tryz.func64 rfl Tryz.ntmps64 rfl ?_
  refine awp_seq ?_
  refine awp_region ?_
  refine sq_plain rfl rfl rfl (w_assign rfl ev_cb) ?_
  refine sq_nil ?_
  refine awp_seq ?_
  refine awp_region ?_
  refine sq_plain rfl rfl rfl (w_move rfl (ev_tmp rfl)) ?_
  refine sq_plain rfl rfl rfl (w_llen rfl Tryz.underlying35 (ev_tmp rfl)) ?_
  refine sq_plain rfl rfl rfl (w_leq rfl (ev_tmp rfl) ev_ci) ?_
  refine sq_plain rfl rfl rfl (w_move rfl (ev_tmp rfl)) ?_
  refine sq_grd rfl rfl (guard_t rfl rfl rfl) (fun hc => w_move rfl (ev_tmp rfl)) ?_
  refine sq_grd rfl rfl (guard_t rfl rfl rfl) (fun hc => w_call rfl Tryz.call119 rfl (writeKeys_spec _ (by assumption)) (evl_cons (ev_whn rfl hc) evl_nil)) ?_
  refine sq_grd rfl rfl (guard_t rfl rfl rfl) (fun hc => w_call rfl Tryz.call63 rfl (areRising_spec _ (by first | assumption | exact sizeL_keys (by assumption))) (evl_cons (ev_whn rfl hc) evl_nil)) ?_
  refine sq_plain rfl rfl rfl (w_and rfl (ev_tmp rfl) (evif_w rfl)) ?_
  refine sq_plain rfl rfl rfl (w_move rfl (ev_tmp rfl)) ?_
  refine sq_grd rfl rfl (guard_t rfl rfl rfl) (fun hc => w_move rfl (ev_tmp rfl)) ?_
  refine sq_grd rfl rfl (guard_t rfl rfl rfl) (fun hc => w_call rfl Tryz.call120 rfl (containsFuncWrite_spec _ _ _ (by first | (intros; trivial) | assumption | (intros; first | trivial | (simp_all; done)))) (evl_cons (ev_whn rfl hc) (evl_cons (ev_fun1 Tryz.call121 (fun w h => goodWrites1_spec w h)) evl_nil))) ?_
  refine sq_grd rfl rfl (guard_t rfl rfl rfl) (fun hc => w_not rfl (ev_whn rfl hc)) ?_
  refine sq_plain rfl rfl rfl (w_and rfl (ev_tmp rfl) (evif_w rfl)) ?_
  refine sq_plain rfl rfl rfl (w_assign rfl (ev_tmp rfl)) ?_
  refine sq_nil ?_
  refine awp_ret ?_
  exact retR rfl (rv_tmp' rfl (by exact congrArg AV.bool (by unfold goodWrites; simp only [List.length_map])))
theorem l3Writes_spec (l : List TWrite) (hs : sizeL TWrite.size l ≤ 1048576) : FSpec Tryz.prog 112 [AV.list 3 (l.map TWrite.cs)] (AV.bool (l3Writes l)) := by
  refine spec_of_awp Tryz.func112 rfl Tryz.ntmps112 rfl ?_
  refine awp_len (t := 0) rfl fun hl => ?_
  try simp only [List.length_map] at hl
  refine awp_seq ?_
  refine awp_region ?_
  refine sq_plain rfl rfl rfl (w_assign rfl ev_cb) ?_
  refine sq_nil ?_
  refine awp_seq ?_
  refine awp_seq ?_
  refine awp_region ?_
  refine sq_plain rfl rfl rfl (w_move rfl (ev_tmp rfl)) ?_
  refine sq_plain rfl rfl rfl (w_llen rfl Tryz.underlying35 (ev_tmp rfl)) ?_
  refine sq_plain rfl rfl rfl (w_move rfl ev_ci) ?_
  refine sq_nil ?_
  refine awp_block ?_
  refine awp_loop_i [(0, _), (5, _), (6, _)] _ (fun (i : Nat) => i ≤ l.length ∧ (l.all wGood && adj wLess l) = ((l.drop i).all wGood && adj wLess (l.drop (i - 1)))) (fun (i : Nat) => []) (fun (i : Nat) => [(7, AV.int i)]) (fun (i : Nat) => l.length - i) (0) ?_ (le_env ⟨rfl, rfl, rfl, rfl, trivial⟩) ?_
  · exact ⟨Nat.zero_le _, rfl⟩
  intro i hinv
  refine awp_seq ?_
  refine awp_region ?_
  refine sq_plain rfl rfl rfl (w_lss rfl (ev_tmp rfl) (ev_tmp rfl)) ?_
  refine sq_nil ?_
  refine awp_seq ?_
  refine awp_cond (ev_tmp rfl) ?_ ?_
  · intro h8
    have k8 := of_decide_eq_true h8; try simp only [List.length_map] at k8
    have hlt : i < l.length := by omega
    obtain ⟨x, hx⟩ := get_some hlt
    obtain ⟨y, hy⟩ := get_some (show i - 1 < l.length by omega)
    have hsx : x.size ≤ 1048576 := Nat.le_trans (sizeL_get hx) hs
    unfold TWrite.size at hsx
    refine awp_skip ?_
    refine awp_seq ?_
    refine awp_block ?_
    refine awp_seq ?_
    refine awp_region ?_
    refine sq_plain rfl rfl rfl (w_move rfl (ev_tmp rfl)) ?_
    refine sq_plain rfl rfl rfl (w_idxm rfl Tryz.underlying35 Tryz.sizeOf79 (ev_tmp rfl) (ev_tmp rfl) hx (by first | omega | ((try simp only [List.length_map, List.length_take, List.length_cons, List.length_nil, chunks_len, szR] at *); omega) | (have hc2 := hc; simp only [Bool.and_eq_true, Bool.or_eq_true, Bool.or_eq_false_iff, Bool.and_eq_false_iff, Bool.not_eq_true', Bool.not_eq_false', decide_eq_true_eq, decide_eq_false_iff_not, beq_iff_eq, bne_iff_ne, List.length_map, List.length_take] at hc2; omega))) ?_
    refine sq_plain rfl rfl rfl (w_loadE rfl (ev_tmp rfl) Tryz.isAgg79 Tryz.sizeOf79) ?_
    refine sq_alloc rfl rfl rfl rfl Tryz.zeroValue79 rfl ?_
    intro b4
    refine sq_plain rfl rfl rfl (w_assign rfl (ev_tmp rfl)) ?_
    refine sq_storeB0 0 rfl rfl rfl (ev_tmp rfl) (ev_tmp rfl) (as_agg _) rfl Tryz.sizeOf79 rfl ?_
    refine sq_nil ?_
    refine awp_seq ?_
    refine awp_region_any (by kernel_rfl) (by kernel_rfl) rfl ?_
    refine ch_plain rfl rfl (w_fldBn 0 rfl Tryz.underlying79 rfl Tryz.sizeOf9 (ev_tmp rfl) rfl) ?_
    refine ch_plain rfl rfl (w_loadB1 0 rfl (ev_tmp rfl) rfl Tryz.isAgg9 rfl) ?_
    refine ch_plain rfl rfl (w_fldBn 1 rfl Tryz.underlying79 rfl Tryz.sizeOf9 (ev_tmp rfl) rfl) ?_
    refine ch_plain rfl rfl (w_loadB1 0 rfl (ev_tmp rfl) rfl Tryz.isAgg9 rfl) ?_
    refine ch_plain rfl rfl (w_fldBn 2 rfl Tryz.underlying79 rfl Tryz.sizeOf4 (ev_tmp rfl) rfl) ?_
    refine ch_plain rfl rfl (w_loadB1 0 rfl (ev_tmp rfl) rfl Tryz.isAgg4 rfl) ?_
    refine ch_plain rfl rfl (w_call rfl Tryz.call152 rfl (l3Write_spec _ _ _ (by omega) (by omega)) (evl_cons (ev_tmp rfl) (evl_cons (ev_tmp rfl) (evl_cons (ev_tmp rfl) evl_nil)))) ?_
    refine ch_plain rfl rfl (w_not rfl (ev_tmp rfl)) ?_
    refine ch_plain rfl rfl (w_move rfl (ev_tmp rfl)) ?_
    refine ch_grd rfl (guard_f rfl rfl rfl) (fun hc => w_move rfl (ev_tmp rfl)) ?_
    refine ch_grd rfl (guard_f rfl rfl rfl) (fun hc => w_gtr rfl (ev_whn rfl hc) ev_ci) ?_
    refine ch_grd rfl (guard_f rfl rfl rfl) (fun hc => w_move rfl (ev_whn rfl hc)) ?_
    refine ch_grd rfl (guard_wt rfl rfl rfl) (fun hc => w_move rfl (ev_tmp rfl)) ?_
    refine ch_grd rfl (guard_wt rfl rfl rfl) (fun hc => w_move rfl (ev_tmp rfl)) ?_
    refine ch_grd rfl (guard_wt rfl rfl rfl) (fun hc => w_subi rfl (ev_whn rfl hc) ev_ci (by first | omega | ((try simp only [List.length_map, List.length_take, List.length_cons, List.length_nil, chunks_len, szR] at *); omega) | (have hc2 := hc; simp only [Bool.and_eq_true, Bool.or_eq_true, Bool.or_eq_false_iff, Bool.and_eq_false_iff, Bool.not_eq_true', Bool.not_eq_false', decide_eq_true_eq, decide_eq_false_iff_not, beq_iff_eq, bne_iff_ne, List.length_map, List.length_take] at hc2; omega))) ?_
    refine ch_grd rfl (guard_wt rfl rfl rfl) (fun hc => w_idxm rfl Tryz.underlying35 Tryz.sizeOf79 (ev_whn rfl hc) (ev_whn rfl hc) hy (by first | omega | ((try simp only [List.length_map, List.length_take, List.length_cons, List.length_nil, chunks_len, szR] at *); omega) | (have hc2 := hc; simp only [Bool.and_eq_true, Bool.or_eq_true, Bool.or_eq_false_iff, Bool.and_eq_false_iff, Bool.not_eq_true', Bool.not_eq_false', decide_eq_true_eq, decide_eq_false_iff_not, beq_iff_eq, bne_iff_ne, List.length_map, List.length_take] at hc2; omega))) ?_
    refine ch_grd rfl (guard_wt rfl rfl rfl) (fun hc => w_fldE rfl Tryz.underlying79 rfl Tryz.sizeOf9 (ev_whn rfl hc) rfl) ?_
    refine ch_grd rfl (guard_wt rfl rfl rfl) (fun hc => w_loadE1 rfl (ev_whn rfl hc) Tryz.isAgg9 rfl) ?_
    refine ch_grd rfl (guard_wt rfl rfl rfl) (fun hc => w_fldBn 0 rfl Tryz.underlying79 rfl Tryz.sizeOf9 (ev_tmp rfl) rfl) ?_
    refine ch_grd rfl (guard_wt rfl rfl rfl) (fun hc => w_loadB1 0 rfl (ev_whn rfl hc) rfl Tryz.isAgg9 rfl) ?_
    refine ch_grd rfl (guard_wt rfl rfl rfl) (fun hc => w_sgeq rfl (ev_whn rfl hc) (ev_whn rfl hc)) ?_
    refine ch_grd rfl (guard_f rfl rfl rfl) (fun hc => w_and rfl (ev_whn rfl hc) (evif_w2 rfl hc)) ?_
    refine ch_plain rfl rfl (w_or rfl (ev_tmp rfl) (evif_w rfl)) ?_
    refine ch_nil ?_
    refine awp_cond (ev_tmp rfl) ?_ ?_
    · intro h34
      have hfin : l3Writes l = false := by unfold l3Writes; rw [hinv.2]; cases hg : wGood x with | false => (rw [all_stop hx hg]; simp) | true => (have hb : 0 < i ∧ wLess y x = false := (by unfold wGood at hg; unfold wLess; simp_all; try grind); rw [adj_stop hx hy hb.1 hb.2]; simp)
      refine awp_seq ?_
      refine awp_region ?_
      refine sq_plain rfl rfl rfl (w_assign rfl ev_cb) ?_
      refine sq_nil ?_
      refine awp_ret ?_
      exact retR rfl (rv_tmp' rfl (by first | exact congrArg AV.bool hfin.symm | exact congrArg AV.bool (by unfold l3Writes; rw [hinv.2, all_end hge, adj_end hge, List.length_map]; simp)))
    · intro h34
      have hg : wGood x = true ∧ (0 < i → wLess y x = true) := by unfold wGood wLess; simp_all
      refine awp_skip ?_
      refine awp_region ?_
      refine sq_plain rfl rfl rfl (w_addi rfl (ev_tmp rfl) ev_ci (by first | omega | ((try simp only [List.length_map, List.length_take, List.length_cons, List.length_nil, chunks_len, szR] at *); omega) | (have hc2 := hc; simp only [Bool.and_eq_true, Bool.or_eq_true, Bool.or_eq_false_iff, Bool.and_eq_false_iff, Bool.not_eq_true', Bool.not_eq_false', decide_eq_true_eq, decide_eq_false_iff_not, beq_iff_eq, bne_iff_ne, List.length_map, List.length_take] at hc2; omega))) ?_
      refine sq_plain rfl rfl rfl (w_move rfl (ev_tmp rfl)) ?_
      refine sq_nil ?_
      refine round_end i (i + 1) ?_ ?_ (le_drop 1 ⟨rfl, rfl, rfl, rfl, trivial⟩)
      · exact ⟨by omega, by rw [hinv.2, all_step hx hg.1, adj_step hx hy hg.2]⟩
      · omega
  · intro h8
    have k8 := of_decide_eq_false h8; try simp only [List.length_map] at k8
    have hge : l.length ≤ i := by omega
    refine awp_exit ?_
    refine awp_seq ?_
    refine awp_region ?_
    refine sq_plain rfl rfl rfl (w_move rfl (ev_tmp rfl)) ?_
    refine sq_plain rfl rfl rfl (w_llen rfl Tryz.underlying35 (ev_tmp rfl)) ?_
    refine sq_plain rfl rfl rfl (w_leq rfl (ev_tmp rfl) ev_ci) ?_
    refine sq_plain rfl rfl rfl (w_assign rfl (ev_tmp rfl)) ?_
    refine sq_nil ?_
    refine awp_ret ?_
    exact retR rfl (rv_tmp' rfl (by first | exact congrArg AV.bool hfin.symm | exact congrArg AV.bool (by unfold l3Writes; rw [hinv.2, all_end hge, adj_end hge, List.length_map]; simp)))
end Go.Proofs.YtmlmmgeadombbaaGreatDoor

set_option linter.unusedVariables false
set_option linter.unusedSimpArgs false
namespace Go.AV
section
variable {P : Program} {G : Nat → Prop} {n : Nat} {own : List Own}
section
variable {o : Oper} {E : EnvF}
end
section
variable {α : Type} {ok : α → Prop} {O : α → List Own} {V : α → AV} {o : Oper}
theorem opE_alloc {ops : Array Oper} {E : EnvF} {t : TypeId} {z : Value} (ho : o.op = .alloc t)
    (hz : ∀ w, (zeroValue t).run P w = .ok z w) (h1' : z.cells.toList.all Value.oneCell' = true) : OpE P G n own ops o E (fun _ : Nat => True) (fun b => own ++ [.box b t (z.cells.toList.map zeroA)]) (fun b => AV.ptr b 0) :=
  fun w0 R0 R a w h1 h3 h2 => by
    have hrun : (execOp a.eval o).run P w = .ok (.value (.pointer (some ⟨w.heap.size, 0, none⟩))) (w.alloc (.cells z.cells.toList.toArray t)) := by
      simp only [execOp, ho, Instr.alloc, newVar, newRow, hz, Array.toArray_toList, Sem.run_bind, Sem.run_pure, Result.andThen_ok, run_newObj, World.alloc_eq]
    unfold Oper.wp
    rw [hrun, Oper.upon_value]
    exact ⟨w.heap.size, _, R, trivial, rfl, core_perm (core_box h1 ⟨by simp, fun i v y hv hy => by
      rw [List.getElem?_map, hv] at hy
      simp at hy; subst hy
      exact ⟨zeroA_den R v, List.all_eq_true.1 h1' v (List.mem_of_getElem? hv)⟩⟩) (List.perm_append_comm (l₁ := [_])), RSub.refl _, rfl⟩
theorem opE_storeB0 {ops : Array Oper} {E : EnvF} {t t' : TypeId} {p q : Operand} {b : Nat} {cs ys : List AV} {x : AV} (i : Nat) (ho : o.op = .store t p q) (hd : o.dst = none)
    (hp : Ev E p (AV.ptr b 0)) (hq : Ev E q x) (hx : AsCells x ys) (hi : own[i]? = some (.box b t' cs)) (hs : ∀ w, (sizeOf t).run P w = .ok ys.length w) (hl' : Nat.beq ys.length cs.length = true) : OpE P G n own ops o E (fun _ : Unit => True) (fun _ => own.set i (.box b t' ys)) (fun _ => AV.int 0) :=
  fun w0 R0 R a w h1 h3 h2 => by
    have e1 : a.eval p = .pointer (some ⟨b, 0, none⟩) := ev_lookA (ops := ops) hp (by simp [ho, Op.operands]) h2
    have e2 := hx R _ (ev_lookA (ops := ops) hq (by simp [ho, Op.operands]) h2)
    have e := Nat.eq_of_beq_eq_true hl'
    obtain ⟨hR, vs, hb, hdc⟩ := h1.owned _ (List.mem_of_getElem? hi)
    have hsz : (a.eval q).cells.size = ys.length := by rw [← Array.length_toList]; exact e2.1
    have hst := run_storeAt (P := P) (t := t) (off := 0) (u := a.eval q) hb (by rw [hsz]; exact hs w) (by rw [hsz, hdc.1]; omega) (fun u hu => by
      obtain ⟨j, hj⟩ := List.getElem?_of_mem hu
      have hjl : j < ys.length := by rw [← e2.1]; exact (List.getElem?_eq_some_iff.1 hj).1
      exact (e2.2 j u _ hj (List.getElem?_eq_getElem hjl)).2)
    have hrun : (execOp a.eval o).run P w = .ok .skip (w.setRow b (vs.take 0 ++ (a.eval q).cells.toList ++ vs.drop (0 + (a.eval q).cells.size)).toArray) := by
      simp only [execOp, ho, e1, hst, Sem.run_bind, Sem.run_pure, Result.andThen_ok]
    unfold Oper.wp
    rw [hrun, Oper.upon_skip, hd]
    refine ⟨(), .int .i64 0, R, trivial, rfl, core_set h1 hi rfl rfl ⟨hR, _, setRow_heap w b _ _ t' _ hb, ?_⟩ (setRow_grown w b _), RSub.refl _, rfl⟩
    rw [← Array.length_toList]
    have := denC_splice (off := 0) hdc e2 (by omega)
    rw [splice_all e] at this
    exact this
end
end
inductive OT where
  | nil
  | pure (i : Nat) (t : OT)
  | e1 (i : Nat) (t : OT)
  | e2 (i : Nat) (t : OT) (j : Nat) (u : OT)
def OT.deep : OT → Nat → Bool
  | .nil, 0 => true
  | .pure _ t, f + 1 => t.deep f
  | .e1 _ t, f + 1 => t.deep f
  | .e2 _ t _ u, f + 1 => t.deep f && u.deep f
  | _, _ => false
def ordT (md : Region.Mode) (ops : Array Oper) (g m : Nat) : OT → Array Bool → Bool
  | .nil, listed => Region.seqB md ops g m listed
  | .pure i r, listed => (Region.ready md ops listed).contains i && Region.free md ops listed i && Nat.blt i m && ordT md ops g m r (listed.setIfInBounds i true)
  | .e1 i r, listed => decide (Region.ready md ops listed = [i]) && Nat.blt i m && ordT md ops g m r (listed.setIfInBounds i true)
  | .e2 i r j u, listed => decide (Region.ready md ops listed = [i, j]) && Nat.blt i m && Nat.blt j m && ordT md ops g m r (listed.setIfInBounds i true) && ordT md ops g m u (listed.setIfInBounds j true)
def treeB (md : Region.Mode) (ops : Array Oper) (m : Nat) (ord : OT) : Bool :=
  decide (m < ops.size) && ord.deep m && Region.sinkB md ops m && Region.chainB md ops m && ordT md ops (ops.size - m) m ord (Array.replicate ops.size false)
section
variable {P : Program} {G : Nat → Prop} {n : Nat}
def EffS (P : Program) (G : Nat → Prop) (n : Nat) (Inv : List Own → Prop) (ops : Array Oper) (i : Nat) (env : List (Nat × AV)) (W : List Own) (K : List (Nat × AV) → List Own → Prop) : Prop :=
  ∃ o, ops[i]? = some o ∧ o.guard = none ∧ ∃ (α : Type) (ok : α → Prop) (W' : α → List Own) (V : α → AV), OpE P G n W ops o (getv · env) ok W' V ∧ (∀ a, ok a → Inv (W' a)) ∧ ∀ a, ok a → K (putv o.dst (V a) env) (W' a)
def BT (P : Program) (G : Nat → Prop) (n : Nat) (Inv : List Own → Prop) (ops : Array Oper) : OT → List (Nat × AV) → List Own → (List (Nat × AV) → List Own → Prop) → Prop
  | .nil, env, W, K => K env W
  | .pure i r, env, W, K => ∃ o, ops[i]? = some o ∧ ∃ x, (∀ W', Inv W' → OpA P G n W' ops o (getv · env) x) ∧ BT P G n Inv ops r (putv o.dst x env) W K
  | .e1 i r, env, W, K => EffS P G n Inv ops i env W fun env' W' => BT P G n Inv ops r env' W' K
  | .e2 i r j u, env, W, K => (EffS P G n Inv ops i env W fun env' W' => BT P G n Inv ops r env' W' K) ∧ EffS P G n Inv ops j env W fun env' W' => BT P G n Inv ops u env' W' K
theorem wpAnyB_ot {Inv : List Own → Prop} {md : Region.Mode} {ops : Array Oper} {m g : Nat} {K : List (Nat × AV) → List Own → Prop} (hs : Region.sinkB md ops m = true) (hc : Region.chainB md ops m = true) (hn : m < ops.size) :
    ∀ (l : OT) (f : Nat) (listed : Array Bool) (env : List (Nat × AV)) (W : List Own), l.deep f = true → HeadInv md ops m listed → Inv W →
    ordT md ops g m l listed = true → BT P G n Inv ops l env W K →
    wpAnyB P G n Inv md ops m (fun listed' E W => Region.seqB md ops g m listed' = true ∧ ∃ env', E = (getv · env') ∧ K env' W) f listed (getv · env) W
  | .nil, 0, listed, env, W, _, _, _, hB, h => ⟨hB, env, rfl, h⟩
  | .nil, _ + 1, _, _, _, hdp, _, _, _, _ => by cases hdp
  | .pure _ _, 0, _, _, _, hdp, _, _, _, _ => by cases hdp
  | .e1 _ _, 0, _, _, _, hdp, _, _, _, _ => by cases hdp
  | .e2 _ _ _ _, 0, _, _, _, hdp, _, _, _, _ => by cases hdp
  | .pure i l, f + 1, listed, env, W, hdp, inv, hW, hB, h => by
    simp only [ordT, Bool.and_eq_true] at hB
    obtain ⟨⟨⟨hr, hf⟩, hlt⟩, hB'⟩ := hB
    have hkn : i < m := Nat.blt_eq.mp hlt
    have hr' : i ∈ Region.ready md ops listed := by simpa using hr
    obtain ⟨o, ho, x, hx, hK⟩ := h
    refine wpAnyB_first ho hs hc hn hkn (fun listed' E W hL => seqB_ready hL.1) f listed _ W inv hW (Region.free_spec ho hf) hr' hx ?_
    rw [← getv_putv]
    exact wpAnyB_ot hs hc hn l f _ _ W hdp (inv.set hr' hkn) hW hB' hK
  | .e1 i l, f + 1, listed, env, W, hdp, inv, hW, hB, h => by
    simp only [ordT, Bool.and_eq_true, decide_eq_true_eq] at hB
    obtain ⟨⟨hr, hlt⟩, hB'⟩ := hB
    have hkn : i < m := Nat.blt_eq.mp hlt
    have hr' : i ∈ Region.ready md ops listed := by rw [hr]; simp
    obtain ⟨o, ho, hg, α, ok, W', V, h1, h2, h3⟩ := h
    refine ⟨fun h0 => (by rw [h0] at hr'; cases hr'), fun j hj => ?_⟩
    rw [hr] at hj
    have : j = i := by simpa using hj
    subst this
    refine ⟨hkn, ?_⟩
    unfold qB
    simp only [ho]
    refine .inr ⟨hg, α, ok, W', V, h1, h2, fun a ha => ?_⟩
    rw [← getv_putv]
    exact wpAnyB_ot hs hc hn l f _ _ (W' a) hdp (inv.set hr' hkn) (h2 a ha) hB' (h3 a ha)
  | .e2 i l k u, f + 1, listed, env, W, hdp, inv, hW, hB, h => by
    simp only [ordT, Bool.and_eq_true, decide_eq_true_eq] at hB
    obtain ⟨⟨⟨⟨hr, hlt⟩, hlt2⟩, hB'⟩, hB2⟩ := hB
    simp only [OT.deep, Bool.and_eq_true] at hdp
    have hkn : i < m := Nat.blt_eq.mp hlt
    have hkn2 : k < m := Nat.blt_eq.mp hlt2
    have hr' : i ∈ Region.ready md ops listed := by rw [hr]; simp
    have hr2 : k ∈ Region.ready md ops listed := by rw [hr]; simp
    obtain ⟨⟨o, ho, hg, α, ok, W', V, h1, h2, h3⟩, ⟨o', ho', hg', α', ok', W'', V', h1', h2', h3'⟩⟩ := h
    refine ⟨fun h0 => (by rw [h0] at hr'; cases hr'), fun j hj => ?_⟩
    rw [hr] at hj
    simp only [List.mem_cons, List.not_mem_nil, or_false] at hj
    rcases hj with hj | hj
    · subst hj
      refine ⟨hkn, ?_⟩
      unfold qB
      simp only [ho]
      refine .inr ⟨hg, α, ok, W', V, h1, h2, fun a ha => ?_⟩
      rw [← getv_putv]
      exact wpAnyB_ot hs hc hn l f _ _ (W' a) hdp.1 (inv.set hr' hkn) (h2 a ha) hB' (h3 a ha)
    · subst hj
      refine ⟨hkn2, ?_⟩
      unfold qB
      simp only [ho']
      refine .inr ⟨hg', α', ok', W'', V', h1', h2', fun a ha => ?_⟩
      rw [← getv_putv]
      exact wpAnyB_ot hs hc hn u f _ _ (W'' a) hdp.2 (inv.set hr2 hkn2) (h2' a ha) hB2 (h3' a ha)
theorem awp_region_tree {id : Nat} {l : List Oper} {Q : Exit → AState → Prop} {env : List (Nat × AV)} {own : List Own} (base : List Own) (m : Nat) (ord : OT) (hm : P.follows .mixedOrders = true) (hB : treeB .any l.toArray m ord = true) (hd : dstOk n l = true) (hb : InvX base own)
    (h : BT P G n (InvX base) l.toArray ord env own (fun env' W => ASeq P G n l.toArray (l.drop m) ⟨W, env'⟩ (Q .normal))) : AWP P G n (.region id l.toArray true) Q ⟨own, env⟩ := fun w0 R0 R a w ⟨h1, h2, h3, h4⟩ => by
  simp only [treeB, Bool.and_eq_true, decide_eq_true_eq] at hB
  obtain ⟨⟨⟨⟨hn, hdp⟩, hs⟩, hc⟩, hlex⟩ := hB
  have hn' : m < l.length := by simpa using hn
  have hdl : (l.drop m).length = l.toArray.size - m := by simp
  have inv0 : HeadInv .any l.toArray m (Array.replicate l.toArray.size false) :=
    ⟨by simp, fun j oj _ hl => (by rw [getD_replicate_false] at hl; cases hl), fun t _ ht => getD_in (by simpa using ht) (getD_replicate_false _ _)⟩
  have H := wpAnyB_ot (g := l.toArray.size - m) hs hc hn ord m _ env own hdp inv0 hb hlex h
  refine wp_region_any hm ?_
  have := wpAny_of_B (w0 := w0) (R0 := R0) (R00 := R) (g := l.toArray.size - m) (Q' := fun e a' w' => ∃ s' R', Q e s' ∧ RSub R R' ∧ St G n w0 R0 s' R' a' w') (fun i o ho d e => dstOk_spec hd i o (by simpa using ho) d e) (fun listed E W R' a' w' g1 g2 g3 g4 g5 hL => by
    obtain ⟨hL1, env', rfl, hL2⟩ := hL
    have := wpAny_of_seq (P := P) (md := .any) (Q' := fun e a' w' => ∃ s' R', Q e s' ∧ RSub R R' ∧ St G n w0 R0 s' R' a' w') (l.drop m) m listed a' w' (fun j => by simp [List.getElem?_drop]) (by rw [hdl]; exact hL1)
      (wpList_of_seq (R00 := R) (K := Q .normal) (fun s' R' a w q r1 r2 => ⟨s', R', q, r1, r2⟩) _ (⟨W, env'⟩ : AState) R' a' w' g1 ⟨g2, g3, g4, g5⟩ hL2)
    rwa [hdl] at this) _ _ _ own R a _ (RSub.refl _) (core_drew h1) h2 h3 h4 H
  rw [show m + (l.toArray.size - m) = l.toArray.size by omega] at this
  exact this
section
variable {ops : Array Oper} {i j : Nat} {o : Oper} {r u : OT} {env : List (Nat × AV)} {W : List Own} {base : List Own} {K : List (Nat × AV) → List Own → Prop} {d : Nat} {x : AV}
theorem bt_nil {Inv : List Own → Prop} (h : K env W) : BT P G n Inv ops .nil env W K := h
theorem bt_plain (ho : ops[i]? = some o) (hg : o.guard = none) (hd : o.dst = some d) (h : ∀ ext, OpW P G n (base ++ ext) o (getv · env) x) (k : BT P G n (InvX base) ops r ((d, x) :: env) W K) : BT P G n (InvX base) ops (.pure i r) env W K :=
  ⟨o, ho, x, fun W' ⟨ext, e⟩ => by subst e; exact opA_plain hg (h ext), by rw [hd]; exact k⟩
theorem bt_e1 {Inv : List Own → Prop} (h : EffS P G n Inv ops i env W fun env' W' => BT P G n Inv ops r env' W' K) : BT P G n Inv ops (.e1 i r) env W K := h
theorem eff_s0 {Inv : List Own → Prop} {α : Type} {ok : α → Prop} {W' : α → List Own} {V : α → AV} (ho : ops[i]? = some o) (hg : o.guard = none) (hd : o.dst = none) (h : OpE P G n W ops o (getv · env) ok W' V) (hi : ∀ a, ok a → Inv (W' a)) (k : ∀ a, ok a → K env (W' a)) : EffS P G n Inv ops i env W K :=
  ⟨o, ho, hg, α, ok, W', V, h, hi, fun a ha => by rw [hd]; exact k a ha⟩
theorem eff_s {Inv : List Own → Prop} {α : Type} {ok : α → Prop} {W' : α → List Own} {V : α → AV} (ho : ops[i]? = some o) (hg : o.guard = none) (hd : o.dst = some d) (h : OpE P G n W ops o (getv · env) ok W' V) (hi : ∀ a, ok a → Inv (W' a)) (k : ∀ a, ok a → K ((d, V a) :: env) (W' a)) : EffS P G n Inv ops i env W K :=
  ⟨o, ho, hg, α, ok, W', V, h, hi, fun a ha => by rw [hd]; exact k a ha⟩
end
end
section
variable {T X : Type} {cs : T → List AV} {ocs : T → X → List AV} {ow : T → X → List Own}
end
section
variable {T : Type}
variable {mk : T → Int → T} {mn : T → Int → Int}
end
end Go.AV

set_option linter.unusedVariables false
set_option linter.unusedSimpArgs false
namespace Go.AV
section
variable {P : Program} {G : Nat → Prop} {n : Nat} {own : List Own} {o : Oper}
theorem gin_nil {rest : List Own} : ∀ b, blksOf [] b → b ∈ rest.filterMap Own.blk := fun _ ⟨_, h, _⟩ => by simp at h
theorem gin_cons {q q' : Own} {ow rest : List Own} (i : Nat) (h : rest[i]? = some q') (hb : Own.blk q = Own.blk q') (k : ∀ b, blksOf ow b → b ∈ rest.filterMap Own.blk) : ∀ b, blksOf (q :: ow) b → b ∈ rest.filterMap Own.blk := fun b ⟨x, hx, hxb⟩ => by
  rcases List.mem_cons.1 hx with rfl | hx
  · exact List.mem_filterMap.2 ⟨q', List.mem_of_getElem? h, hb ▸ hxb⟩
  · exact k b ⟨x, hx, hxb⟩
theorem core_sealD {sel rest : List Own} {w0 : World} {R0 R : RHeap} {w : World} (h : Core G w0 R0 (sel ++ rest) R w) (hG : ∀ b, G b → b ∈ rest.filterMap Own.blk) : Core G w0 R0 rest (lend sel w R) w := by
  have hl := core_left h
  refine ⟨h.os, h.tape, h.output, h.size, h.block, lend_le hl, fun b hb => ?_, fun q hq => ?_, fun q hq => h.fresh q (List.mem_append_right _ hq), (core_right h).sep⟩
  · unfold lend
    cases hob : ownB sel b with
    | true =>
      obtain ⟨x, hx, hxb⟩ := ownB_true hob
      rcases h.fresh x (List.mem_append_left _ hx) b hxb with h1 | h1
      · omega
      · obtain ⟨y, hy, hyb⟩ := List.mem_filterMap.1 (hG b h1)
        exact absurd hyb (sep_apart h.sep hx hy hxb)
    | false => exact h.rold b hb
  · have hk := h.owned q (List.mem_append_right _ hq)
    refine Own.ok_keep hk (lend_sub hl) fun b hb => ⟨rfl, ?_⟩
    unfold lend
    cases hob : ownB sel b with
    | true =>
      obtain ⟨x, hx, hxb⟩ := ownB_true hob
      exact absurd hb (sep_apart h.sep hx hq hxb)
    | false => exact (Own.ok_blk hk hb).1
theorem le_sealD {env : List (Nat × AV)} {sel rest : List Own} {x y : AV} (is : List Nat) (t : Nat) (hp : pick own is = (sel, rest)) (ht : getv t env = some x) (hl : LendTo sel x y) (hG : ∀ b, G b → b ∈ rest.filterMap Own.blk) : Le G n ⟨own, env⟩ ⟨rest, (t, y) :: env⟩ := fun w0 R0 R a w ⟨h1, h2, h3⟩ => by
  have hc := core_pick h1 hp
  refine ⟨lend sel w R, lend_sub (core_left hc), core_sealD hc hG, fun k z hz => ?_, h3⟩
  simp only [getv] at hz
  by_cases hk : t = k
  · subst hk
    simp [Nat.beq_refl] at hz
    rw [← hz]
    exact hl G w0 R0 R w _ (core_left hc) (h2 t x ht)
  · rw [nat_beq_ne hk, cond_false] at hz
    exact z.mono (lend_sub (core_left hc)) (h2 k z hz)
def bandI (x y : Int) : Int := IntKind.u64.wrap (((BitVec.ofInt IntKind.u64.bits x &&& BitVec.ofInt IntKind.u64.bits y).toNat : Nat) : Int)
theorem w_band {E : EnvF} {t ty : TypeId} {p q : Operand} {x y : Int} (ho : o.op = .binOp .and t p q ty) (hp : Ev E p (AV.ik .u64 x)) (hq : Ev E q (AV.ik .u64 y)) : OpW P G n own o E (AV.ik .u64 (bandI x y)) := opW_val fun R a w _ he => by
  have h1 : a.eval p = .int .u64 x := ev_use hp (by simp [ho, Op.operands]) he
  have h2 : a.eval q = .int .u64 y := ev_use hq (by simp [ho, Op.operands]) he
  exact ⟨.int .u64 (bandI x y), by simp only [execOp, ho, h1, h2]; simp [go_sem]; rfl, rfl⟩
end
end Go.AV

set_option linter.unusedVariables false
set_option linter.unusedSimpArgs false
namespace Go.AV
section
variable {P : Program} {G : Nat → Prop} {n : Nat} {own : List Own} {o : Oper}
section
variable {T X : Type} {ocs : T → X → List AV} {cs : T → List AV} {ow : T → X → List Own}
end
end
end Go.AV

set_option linter.unusedVariables false
set_option linter.unusedSimpArgs false
namespace Go.AV
section
variable {P : Program} {G : Nat → Prop} {n : Nat} {own : List Own} {o : Oper} {E : EnvF}
@[reducible] def byteC (b : UInt8) : List AV := [AV.ik .u8 b.toNat]
theorem flat_byteC : ∀ (bs : List UInt8), (bs.map byteC).flatten = bs.map fun b => AV.ik .u8 b.toNat
  | [] => rfl
  | b :: bs => by rw [List.map_cons, List.flatten_cons, flat_byteC bs]; rfl
theorem conv_bytes {w : World} {oa : Option Addr} {c : Nat} {bs : List UInt8} {src dst e : TypeId} (hs : P.underlying src = some (.slice e)) (he : P.underlying e = some (.int .u8)) (hdst : P.underlying dst = some .string)
    (h : bs ≠ [] → ∃ a, oa = some a ∧ ∀ (j : Nat) (b : UInt8), bs[j]? = some b → w.cell? (a.add j) = some (.int .u8 b.toNat)) :
    (convert src dst (.slice oa bs.length c)).run P w = .ok (.string ⟨bs.toArray⟩) w := by
  cases oa with
  | none =>
    have hb : bs = [] := by
      cases bs with
      | nil => rfl
      | cons b t => obtain ⟨a, ha, _⟩ := h (by simp); cases ha
    subst hb
    exact Go.run_convert_bytes_nil (w := w) (P := P) src e hs he _ _ dst hdst
  | some a =>
    have hl : (loadCells a bs.length).run P w = .ok ((bs.map fun b => (b.toNat : Int)).map (Value.int .u8)).toArray w := by
      have := run_loadCells_list (P := P) (w := w) a ((bs.map fun b => (b.toNat : Int)).map (Value.int .u8)) (fun j v hj => by
        rw [List.getElem?_map, List.getElem?_map] at hj
        cases hb : bs[j]? with
        | none => rw [hb] at hj; cases hj
        | some b =>
          rw [hb] at hj
          injection hj with hj; subst hj
          obtain ⟨a', ha, hc⟩ := h (by intro hn; rw [hn] at hb; simp at hb)
          injection ha with ha; subst ha
          exact hc j b hb)
      simpa using this
    rw [Go.run_convert_bytes_string w src dst e _ _ c hs he hdst, Go.run_bytesToString w a bs.length c _ hl, Go.foldl_push_bytes]
    refine congrArg (fun b => Result.ok (Value.string b) w) ?_
    refine ByteArray.ext ?_
    apply Array.toList_inj.1
    simp [ByteArray.empty, ByteArray.emptyWithCapacity]
    show [] ++ bs.map (fun b => UInt8.ofNat (Int.toNat (b.toNat : Int))) = bs
    rw [List.nil_append]
    conv => rhs; rw [← List.map_id bs]
    refine List.map_congr_left fun b _ => ?_
    rw [Int.toNat_natCast]
    simp
theorem conv_list {R : RHeap} {w : World} {v : Value} {bs : List UInt8} {src dst e : TypeId} (hr : RLe R w) (hd : (AV.list 1 (bs.map byteC)).den R v) (hs : P.underlying src = some (.slice e)) (he : P.underlying e = some (.int .u8)) (hdst : P.underlying dst = some .string) :
    (convert src dst v).run P w = .ok (.string ⟨bs.toArray⟩) w := by
  obtain ⟨oa, c, rfl, h1, h2, _, h4⟩ := hd
  rw [List.length_map]
  refine conv_bytes hs he hdst fun hn => ?_
  obtain ⟨a, ha, hc⟩ := h4 (by intro hm; exact hn (List.map_eq_nil_iff.1 hm))
  refine ⟨a, ha, fun j b hb => ?_⟩
  rw [flat_byteC] at hc
  obtain ⟨u, hu, hx, _⟩ := hc j (AV.ik .u8 b.toNat) (by rw [List.getElem?_map, hb]; rfl)
  rw [rcell_cell hr hu]
  exact congrArg some hx
theorem w_convB {src dst e : TypeId} {p : Operand} {bs : List UInt8} (ho : o.op = .convert src dst p) (hs : P.underlying src = some (.slice e)) (he : P.underlying e = some (.int .u8)) (hd : P.underlying dst = some .string) (hp : Ev E p (AV.list 1 (bs.map byteC))) : OpW P G n own o E (AV.str bs) := opW_val fun R a w hr hv => by
  have h1 := ev_use hp (by simp [ho, Op.operands]) hv
  exact ⟨.string ⟨bs.toArray⟩, by simp [execOp, ho, conv_list hr h1 hs he hd], rfl⟩
theorem w_convBo {src dst e t : TypeId} {p : Operand} {v : Value} {bs : List UInt8} (i : Nat) (hi : own[i]? = some (.arr v t 1 (bs.map byteC))) (ho : o.op = .convert src dst p) (hs : P.underlying src = some (.slice e)) (he : P.underlying e = some (.int .u8)) (hd : P.underlying dst = some .string) (hp : Ev E p (AV.is v)) : OpW P G n own o E (AV.str bs) := opW_core fun w0 R0 R a w hc hv => by
  have h1 : a.eval p = v := ev_use hp (by simp [ho, Op.operands]) hv
  have h2 := conv_list (P := P) (lend_le hc) (arr_list hc i hi) hs he hd
  exact ⟨.string ⟨bs.toArray⟩, by simp [execOp, ho, h1, h2], rfl⟩
end
end Go.AV

set_option linter.unusedVariables false
set_option linter.unusedSimpArgs false
set_option maxRecDepth 100000
namespace Go.Proofs.YtmlmmgeadombbaaGreatDoor
open Go Go.AV Go.M
attribute [local irreducible] OpW OpA OpS AWP FSpec ESpec RetOk RvDen Le Ev GuardIs
end Go.Proofs.YtmlmmgeadombbaaGreatDoor

set_option linter.unusedVariables false
set_option linter.unusedSimpArgs false
set_option maxRecDepth 100000
namespace Go.M
open Go.AV
theorem wrap_u8 (m : Nat) : IntKind.u8.wrap (m : Int) = ((UInt8.ofNat m).toNat : Int) := by
  rw [UInt8.toNat_ofNat']
  unfold IntKind.wrap
  simp [IntKind.bits, IntKind.signed]
theorem tmod_nat (m k : Nat) : ((m : Int).tmod (k : Int)) = ((m % k : Nat) : Int) := (Int.ofNat_tmod m k).symm
theorem tdiv_nat (m k : Nat) : ((m : Int).tdiv (k : Int)) = ((m / k : Nat) : Int) := (Int.ofNat_tdiv m k).symm
theorem wrap_nat {m : Nat} (h : m ≤ 9223372036854775807) : IntKind.i64.wrap (m : Int) = (m : Int) := in64 (by omega)
theorem byte_hi (m : Nat) : IntKind.u8.wrap (IntKind.u8.wrap ((m : Int).tmod 128) + 128) = ((UInt8.ofNat (m % 128 + 128)).toNat : Int) := by
  have h1 := tmod_nat m 128
  rw [show ((128 : Nat) : Int) = 128 from rfl] at h1
  rw [h1, wrap_u8, u8_nat (by omega)]
  have := wrap_u8 (m % 128 + 128)
  rw [← this]; simp
theorem byte_hi2 (m : Nat) : IntKind.u8.wrap ((m : Int).tmod 128 + 128) = ((UInt8.ofNat (m % 128 + 128)).toNat : Int) := by
  have h1 := tmod_nat m 128
  rw [show ((128 : Nat) : Int) = 128 from rfl] at h1
  rw [h1]
  have := wrap_u8 (m % 128 + 128)
  rw [← this]; simp
theorem quo_nat {m : Nat} (h : m ≤ 9223372036854775807) : IntKind.i64.wrap ((m : Int).tdiv 128) = ((m / 128 : Nat) : Int) := by
  have h1 := tdiv_nat m 128
  rw [show ((128 : Nat) : Int) = 128 from rfl] at h1
  rw [h1, wrap_nat (by omega)]
theorem numB_len9 {n : Nat} (h : n ≤ 4611686018427387904) : (numB n).length ≤ 9 := numB_len (k := 9) (by omega) (by decide)
end Go.M
namespace Go.Proofs.YtmlmmgeadombbaaGreatDoor
open Go Go.AV Go.M
attribute [local irreducible] OpW OpA OpS AWP FSpec ESpec GSpec OpE RetOk RetOkG RvDen Le Ev GuardIs SrcIs Int.tmod Int.tdiv IntKind.wrap
theorem numBytes_spec (n : Nat) (h : n ≤ 4611686018427387904) : FSpec Tryz.prog 104 [AV.int n] (AV.str (numB n)) := by
  have hlen := numB_len9 h
  refine spec_of_awp Tryz.func104 rfl Tryz.ntmps104 rfl ?_
  refine awp_seq ?_
  refine awp_region ?_
  refine sq_plain rfl rfl rfl (w_assign rfl (ev_cs' (l := []) rfl)) ?_
  refine sq_nil ?_
  refine awp_seq ?_
  refine awp_region ?_
  refine sq_emptyarr rfl rfl rfl rfl Tryz.underlying22 Tryz.sizeOf5 ?_
  intro v4
  refine sq_plain rfl rfl rfl (w_assign rfl (ev_tmp rfl)) ?_
  refine sq_nil ?_
  refine awp_seq ?_
  refine awp_block ?_
  refine AWP.le (le_pick [0] rfl) ?_
  refine awp_loop_i3 [(2, _)] _ (fun (m : Nat) (bs : Str) (v : Value) => bs ++ numB m = numB n ∧ m ≤ n) (fun (m : Nat) (bs : Str) (v : Value) => [.arr v 5 1 (bs.map byteC)]) (fun (m : Nat) (bs : Str) (v : Value) => [(0, AV.int m), (3, AV.is v)]) (fun (m : Nat) (bs : Str) (v : Value) => m) (n) ([]) (v4) ?_ (le_eq (by rfl) ⟨rfl, rfl, rfl, trivial⟩) ?_
  · exact ⟨rfl, Nat.le_refl _⟩
  intro m bs v hinv
  have hbl : bs.length ≤ 9 := by (have h9 := congrArg List.length hinv.1; rw [List.length_append] at h9; omega)
  refine awp_seq ?_
  refine awp_seq ?_
  refine awp_region ?_
  refine sq_plain rfl rfl rfl (w_move rfl (ev_tmp rfl)) ?_
  refine sq_plain rfl rfl rfl (w_geq rfl (ev_tmp rfl) ev_ci) ?_
  refine sq_nil ?_
  refine awp_cond (ev_tmp rfl) ?_ ?_
  · intro h6
    have k6 := of_decide_eq_true h6; try simp only [List.length_map] at k6
    have hm : 128 ≤ m := by omega
    have hq := quo_nat (m := m) (by omega)
    have hbyte : [[AV.ik .u8 (IntKind.u8.wrap (IntKind.u8.wrap ((m : Int).tmod 128) + 128))]] = [UInt8.ofNat (m % 128 + 128)].map byteC := by rw [byte_hi]; rfl
    refine awp_skip ?_
    refine awp_block ?_
    refine awp_seq ?_
    refine awp_region ?_
    refine sq_plain rfl rfl rfl (w_move rfl (ev_tmp rfl)) ?_
    refine sq_plain rfl rfl rfl (w_move rfl (ev_tmp rfl)) ?_
    refine sq_plain rfl rfl rfl (w_rem rfl (ev_tmp rfl) ev_ci (by decide)) ?_
    refine sq_plain rfl rfl rfl (w_conv rfl (by kernel_rfl) Tryz.underlying5 (ev_tmp rfl)) ?_
    refine sq_plain rfl rfl rfl (w_add rfl (ev_tmp rfl) ev_ci) ?_
    refine sq_plain rfl rfl rfl (w_bslice rfl Tryz.underlying22 Tryz.sizeOf5 Tryz.zeroValue5 rfl rfl rfl rfl (bp_cons (ev_tmp rfl) (as_ik _ _) bp_nil) rfl rfl) ?_
    refine sq_append (by' := 1) 0 rfl rfl rfl rfl Tryz.underlying22 Tryz.type5 rfl rfl rfl rfl rfl rfl (ev_tmp rfl) (ev_tmp rfl) rfl (by first | omega | ((try simp only [List.length_map, List.length_take, List.length_cons, List.length_nil, chunks_len, szR] at *); omega) | (have hc2 := hc; simp only [Bool.and_eq_true, Bool.or_eq_true, Bool.or_eq_false_iff, Bool.and_eq_false_iff, Bool.not_eq_true', Bool.not_eq_false', decide_eq_true_eq, decide_eq_false_iff_not, beq_iff_eq, bne_iff_ne, List.length_map, List.length_take] at hc2; omega)) ?_
    intro v13_1
    refine sq_plain rfl rfl rfl (w_assign rfl (ev_tmp rfl)) ?_
    refine sq_nil ?_
    refine awp_region ?_
    refine sq_plain rfl rfl rfl (w_move rfl (ev_tmp rfl)) ?_
    refine sq_plain rfl rfl rfl (w_quo rfl (ev_tmp rfl) ev_ci (by decide)) ?_
    refine sq_plain rfl rfl rfl (w_assign rfl (ev_tmp rfl)) ?_
    refine sq_nil ?_
    refine blockN ?_
    refine round_end3 m bs v (m / 128) (bs ++ [UInt8.ofNat (m % 128 + 128)]) (v13_1) ?_ ?_ (le_eq (by rw [List.map_append, ← hbyte]; rfl) ⟨congrArg (fun z => some (AV.int z)) hq, rfl, rfl, trivial⟩)
    · exact ⟨by rw [List.append_assoc, ← hinv.1, numB_big hm]; rfl, by omega⟩
    · omega
  · intro h6
    have k6 := of_decide_eq_false h6; try simp only [List.length_map] at k6
    have hlast : [[AV.ik .u8 (IntKind.u8.wrap (m : Int))]] = [UInt8.ofNat m].map byteC := by rw [wrap_u8]; rfl
    refine awp_exit ?_
    refine awp_seq ?_
    refine awp_region ?_
    refine sq_plain rfl rfl rfl (w_move rfl (ev_tmp rfl)) ?_
    refine sq_plain rfl rfl rfl (w_move rfl (ev_tmp rfl)) ?_
    refine sq_plain rfl rfl rfl (w_conv rfl (by kernel_rfl) Tryz.underlying5 (ev_tmp rfl)) ?_
    refine sq_plain rfl rfl rfl (w_bslice rfl Tryz.underlying22 Tryz.sizeOf5 Tryz.zeroValue5 rfl rfl rfl rfl (bp_cons (ev_tmp rfl) (as_ik _ _) bp_nil) rfl rfl) ?_
    refine sq_append (by' := 1) 0 rfl rfl rfl rfl Tryz.underlying22 Tryz.type5 rfl rfl rfl rfl rfl rfl (ev_tmp rfl) (ev_tmp rfl) rfl (by first | omega | ((try simp only [List.length_map, List.length_take, List.length_cons, List.length_nil, chunks_len, szR] at *); omega) | (have hc2 := hc; simp only [Bool.and_eq_true, Bool.or_eq_true, Bool.or_eq_false_iff, Bool.and_eq_false_iff, Bool.not_eq_true', Bool.not_eq_false', decide_eq_true_eq, decide_eq_false_iff_not, beq_iff_eq, bne_iff_ne, List.length_map, List.length_take] at hc2; omega)) ?_
    intro v20_2
    refine sq_plain rfl rfl rfl (w_convBo (bs := (bs ++ [UInt8.ofNat m])) 0 (by rw [List.map_append, ← hlast]; rfl) rfl Tryz.underlying22 Tryz.underlying5 Tryz.underlying9 (ev_tmp rfl)) ?_
    refine sq_plain rfl rfl rfl (w_assign rfl (ev_tmp rfl)) ?_
    refine sq_nil ?_
    refine awp_ret ?_
    exact retR rfl (rv_tmp' rfl (by (refine congrArg AV.str ?_; rw [← hinv.1, numB_small (by omega)])))
theorem numBytesI_spec (n : Int) (h0 : 0 ≤ n) (h : n ≤ 4611686018427387904) : FSpec Tryz.prog 104 [AV.int n] (AV.str (numB n.toNat)) := by
  have := numBytes_spec n.toNat (by omega)
  rwa [show ((n.toNat : Nat) : Int) = n by omega] at this
theorem numBSn_spec (n : Nat) (h : n ≤ 4611686018427387904) : FSpec Tryz.prog 113 [AV.int n] (AV.str (numB n)) := by
  have hlen := numB_len9 h
  refine spec_of_awp Tryz.func113 rfl Tryz.ntmps113 rfl ?_
  refine awp_seq ?_
  refine awp_region ?_
  refine sq_plain rfl rfl rfl (w_assign rfl (ev_cs' (l := []) rfl)) ?_
  refine sq_nil ?_
  refine awp_seq ?_
  refine awp_region ?_
  refine sq_nilarr 5 1 rfl rfl rfl rfl ev_cnils ?_
  intro v3
  refine sq_nil ?_
  refine awp_seq ?_
  refine awp_block ?_
  refine AWP.le (le_pick [0] rfl) ?_
  refine awp_loop_i3 [(2, _)] _ (fun (m : Nat) (bs : Str) (v : Value) => bs ++ numB m = numB n ∧ m ≤ n) (fun (m : Nat) (bs : Str) (v : Value) => [.arr v 5 1 (bs.map byteC)]) (fun (m : Nat) (bs : Str) (v : Value) => [(0, AV.int m), (3, AV.is v)]) (fun (m : Nat) (bs : Str) (v : Value) => m) (n) ([]) (v3) ?_ (le_eq (by rfl) ⟨rfl, rfl, rfl, trivial⟩) ?_
  · exact ⟨rfl, Nat.le_refl _⟩
  intro m bs v hinv
  have hbl : bs.length ≤ 9 := by (have h9 := congrArg List.length hinv.1; rw [List.length_append] at h9; omega)
  refine awp_seq ?_
  refine awp_seq ?_
  refine awp_region ?_
  refine sq_plain rfl rfl rfl (w_move rfl (ev_tmp rfl)) ?_
  refine sq_plain rfl rfl rfl (w_geq rfl (ev_tmp rfl) ev_ci) ?_
  refine sq_nil ?_
  refine awp_cond (ev_tmp rfl) ?_ ?_
  · intro h5
    have k5 := of_decide_eq_true h5; try simp only [List.length_map] at k5
    have hm : 128 ≤ m := by omega
    have hq := quo_nat (m := m) (by omega)
    have htm := tmod_nat m 128
    have hbyte : [[AV.ik .u8 (IntKind.u8.wrap ((m : Int).tmod 128 + 128))]] = [UInt8.ofNat (m % 128 + 128)].map byteC := by rw [byte_hi2]; rfl
    refine awp_skip ?_
    refine awp_seq ?_
    refine awp_block ?_
    refine awp_region ?_
    refine sq_plain rfl rfl rfl (w_move rfl (ev_tmp rfl)) ?_
    refine sq_plain rfl rfl rfl (w_move rfl (ev_tmp rfl)) ?_
    refine sq_plain rfl rfl rfl (w_rem rfl (ev_tmp rfl) ev_ci (by decide)) ?_
    refine sq_plain rfl rfl rfl (w_addi rfl (ev_tmp rfl) ev_ci (by rw [show (128 : Int) = ((128 : Nat) : Int) from rfl, htm]; omega)) ?_
    refine sq_plain rfl rfl rfl (w_conv rfl (by kernel_rfl) Tryz.underlying5 (ev_tmp rfl)) ?_
    refine sq_plain rfl rfl rfl (w_bslice rfl Tryz.underlying22 Tryz.sizeOf5 Tryz.zeroValue5 rfl rfl rfl rfl (bp_cons (ev_tmp rfl) (as_ik _ _) bp_nil) rfl rfl) ?_
    refine sq_append (by' := 1) 0 rfl rfl rfl rfl Tryz.underlying22 Tryz.type5 rfl rfl rfl rfl rfl rfl (ev_tmp rfl) (ev_tmp rfl) rfl (by first | omega | ((try simp only [List.length_map, List.length_take, List.length_cons, List.length_nil, chunks_len, szR] at *); omega) | (have hc2 := hc; simp only [Bool.and_eq_true, Bool.or_eq_true, Bool.or_eq_false_iff, Bool.and_eq_false_iff, Bool.not_eq_true', Bool.not_eq_false', decide_eq_true_eq, decide_eq_false_iff_not, beq_iff_eq, bne_iff_ne, List.length_map, List.length_take] at hc2; omega)) ?_
    intro v14_1
    refine sq_plain rfl rfl rfl (w_assign rfl (ev_tmp rfl)) ?_
    refine sq_nil ?_
    refine awp_region ?_
    refine sq_plain rfl rfl rfl (w_move rfl (ev_tmp rfl)) ?_
    refine sq_plain rfl rfl rfl (w_quo rfl (ev_tmp rfl) ev_ci (by decide)) ?_
    refine sq_plain rfl rfl rfl (w_assign rfl (ev_tmp rfl)) ?_
    refine sq_nil ?_
    refine round_end3 m bs v (m / 128) (bs ++ [UInt8.ofNat (m % 128 + 128)]) (v14_1) ?_ ?_ (le_eq (by rw [List.map_append, ← hbyte]; rfl) ⟨congrArg (fun z => some (AV.int z)) hq, rfl, rfl, trivial⟩)
    · exact ⟨by rw [List.append_assoc, ← hinv.1, numB_big hm]; rfl, by omega⟩
    · omega
  · intro h5
    have k5 := of_decide_eq_false h5; try simp only [List.length_map] at k5
    have hlast : [[AV.ik .u8 (IntKind.u8.wrap (m : Int))]] = [UInt8.ofNat m].map byteC := by rw [wrap_u8]; rfl
    refine awp_exit ?_
    refine awp_seq ?_
    refine awp_region ?_
    refine sq_plain rfl rfl rfl (w_move rfl (ev_tmp rfl)) ?_
    refine sq_plain rfl rfl rfl (w_move rfl (ev_tmp rfl)) ?_
    refine sq_plain rfl rfl rfl (w_conv rfl (by kernel_rfl) Tryz.underlying5 (ev_tmp rfl)) ?_
    refine sq_plain rfl rfl rfl (w_bslice rfl Tryz.underlying22 Tryz.sizeOf5 Tryz.zeroValue5 rfl rfl rfl rfl (bp_cons (ev_tmp rfl) (as_ik _ _) bp_nil) rfl rfl) ?_
    refine sq_append (by' := 1) 0 rfl rfl rfl rfl Tryz.underlying22 Tryz.type5 rfl rfl rfl rfl rfl rfl (ev_tmp rfl) (ev_tmp rfl) rfl (by first | omega | ((try simp only [List.length_map, List.length_take, List.length_cons, List.length_nil, chunks_len, szR] at *); omega) | (have hc2 := hc; simp only [Bool.and_eq_true, Bool.or_eq_true, Bool.or_eq_false_iff, Bool.and_eq_false_iff, Bool.not_eq_true', Bool.not_eq_false', decide_eq_true_eq, decide_eq_false_iff_not, beq_iff_eq, bne_iff_ne, List.length_map, List.length_take] at hc2; omega)) ?_
    intro v19_2
    refine sq_plain rfl rfl rfl (w_convBo (bs := (bs ++ [UInt8.ofNat m])) 0 (by rw [List.map_append, ← hlast]; rfl) rfl Tryz.underlying22 Tryz.underlying5 Tryz.underlying9 (ev_tmp rfl)) ?_
    refine sq_plain rfl rfl rfl (w_assign rfl (ev_tmp rfl)) ?_
    refine sq_nil ?_
    refine awp_ret ?_
    exact retR rfl (rv_tmp' rfl (by (refine congrArg AV.str ?_; rw [← hinv.1, numB_small (by omega)])))
theorem numBS_spec (n : Int) (h0 : 0 ≤ n) (h : n ≤ 4611686018427387904) : FSpec Tryz.prog 113 [AV.int n] (AV.str (numB n.toNat)) := by
  have := numBSn_spec n.toNat (by omega)
  rwa [show ((n.toNat : Nat) : Int) = n by omega] at this
end Go.Proofs.YtmlmmgeadombbaaGreatDoor
