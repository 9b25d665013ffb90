/- Texts of the claim, part 2. -/
import Derived.Test.YtkegepoihkhihaaGreatRows
import Derived.StillTailTactics
import Derived.Deep.QuietTactic
import Derived.Shelf.SlSortCmp.WholeK
import Derived.Sort.OwnSortedInts
import Derived.Sort.EncStr
import Derived.Shelf.GgSortFunc.RowK
import Derived.Shelf.SlSortCmp.NoneTotal
import Derived.Test.YtkegepoihkhihaaGreatProg
import Derived.Sort.Walk0
import Derived.Test.YtkegepoihkhihaaGreatZNextFeed1

set_option linter.defProp false
def J0 := @Go.Proofs.Tryz.underlying9
def F0 := @Go.Proofs.Tryz.underlying102
def G5 := @Go.Proofs.Tryz.sizeOf101
def Q4 := @Go.Proofs.Tryz.isAgg101
def F5 := @Go.Proofs.Tryz.underlying40
def E8 := @Go.Proofs.Tryz.sizeOf141
def K5 := @Go.Proofs.Tryz.isAgg141
def I4 := @Go.Proofs.Tryz.underlying26
def I0 := @Go.Proofs.Tryz.sizeOf43
def N3 := @Go.Proofs.Tryz.isAgg43
def T6 := @Go.Proofs.Tryz.underlying3
def F3 := @Go.Proofs.Tryz.underlying39
def F2 := @Go.Proofs.Tryz.sizeOf125
def O0 := @Go.Proofs.Tryz.isAgg125
def D6 := @Go.Proofs.Tryz.underlying99
def D2 := @Go.Proofs.Tryz.sizeOf9
def E6 := @Go.Proofs.Tryz.isAgg9
def F4 := @Go.Proofs.Tryz.underlying63
def B9 := @Go.Proofs.Tryz.sizeOf3
def D1 := @Go.Proofs.Tryz.isAgg3
def G3 := @Go.Proofs.Tryz.sizeOf4
def I9 := @Go.Proofs.Tryz.isAgg4
def E5 := @Go.Proofs.Tryz.underlying36
def G0 := @Go.Proofs.Tryz.sizeOf63
def P6 := @Go.Proofs.Tryz.isAgg63
def O6 := @Go.Proofs.Tryz.underlying4
def G7 := @Go.Proofs.Tryz.underlying101
def F9 := @Go.Proofs.Tryz.underlying125
def L2 := @Go.Proofs.Tryz.sizeOf123
def O1 := @Go.Proofs.Tryz.isAgg123
def H4 := @Go.Proofs.Tryz.underlying123
def J1 := @Go.Proofs.Tryz.sizeOf127
def W0 := @Go.Proofs.Tryz.isAgg127
def G2 := @Go.Proofs.Tryz.underlying127
def U5 := @Go.Proofs.Tryz.underlying219
def P7 := @Go.Proofs.Tryz.underlying136
def X6 := @Go.Proofs.Tryz.sizeOf219
def P8 := @Go.Proofs.Tryz.underlying132
def X7 := @Go.Proofs.Tryz.sizeOf217
def T5 := @Go.Proofs.Tryz.underlying134
def N7 := @Go.Proofs.Tryz.underlying138
def L0 := @Go.Proofs.Tryz.sizeOf99
def N4 := @Go.Proofs.Tryz.isAgg99
def E1 := @Go.Proofs.Tryz.underlying141
def J6 := @Go.Proofs.Tryz.sizeOf102
def K6 := @Go.Proofs.Tryz.isAgg102
def H8 := @Go.Proofs.Tryz.underlying144
def Z2 := @Go.Proofs.Tryz.isAgg144
def L3 := @Go.Proofs.Tryz.sizeOf144
def Q5 := @Go.Proofs.Tryz.underlying30
def X8 := @Go.Proofs.Tryz.sizeOf134
def Q6 := @Go.Proofs.Tryz.underlying31
def X9 := @Go.Proofs.Tryz.sizeOf138
def T1 := @Go.Proofs.Tryz.underlying32
def J8 := @Go.Proofs.Tryz.underlying41
def O7 := @Go.Proofs.Tryz.underlying34
def E3 := @Go.Proofs.Tryz.underlying43
def L6 := @Go.Proofs.Tryz.sizeOf39
def M9 := @Go.Proofs.Tryz.sizeOf40
def Q9 := @Go.Proofs.Tryz.sizeOf41
def O3 := @Go.Proofs.Tryz.isAgg39
def P9 := @Go.Proofs.Tryz.isAgg40
def V2 := @Go.Proofs.Tryz.isAgg41
def P5 := @Go.Proofs.Tryz.underlying22
def Z3 := @Go.Proofs.Tryz.sizeOf34
def M7 := @Go.Proofs.Tryz.underlying52
def R5 := @Go.Proofs.Tryz.isAgg52
def L1 := @Go.Proofs.Tryz.sizeOf52
def E0 := @Go.Proofs.Tryz.underlying104
set_option linter.unusedVariables false
namespace Go.M
open Go.AV
abbrev Str := List UInt8
@[reducible] def strs (l : List Str) : AV := AV.list 1 (l.map fun s => [AV.str s])
@[reducible] def ints (l : List Int) : AV := AV.list 1 (l.map fun s => [AV.int s])
def sizeL {α : Type} (f : α → Nat) (l : List α) : Nat := l.length + (l.map f).sum
def szR (n : Nat) (left : Int) : Int := if left < n then -1 else left - n
theorem j4 {α : Type} (f : α → Nat) : ∀ (l : List α) (i : Nat) (x : α), l[i]? = some x → ((l.take (i + 1)).map f).sum = ((l.take i).map f).sum + f x
  | [], i, x, h => by simp at h
  | y :: l, 0, x, h => by simp at h; subst h; simp
  | y :: l, i + 1, x, h => by
    have := j4 f l i x (by simpa using h)
    simp only [w5, List.map_cons, List.sum_cons, this]; omega
theorem p5 {α : Type} (f : α → Nat) : ∀ (l : List α) (i : Nat) (x : α), l[i]? = some x → ((l.take i).map f).sum + f x ≤ (l.map f).sum
  | [], i, x, h => by simp at h
  | y :: l, 0, x, h => by simp at h; subst h; simp
  | y :: l, i + 1, x, h => by
    have := p5 f l i x (by simpa using h)
    simp only [w5, List.map_cons, List.sum_cons]; omega
theorem k6 {α : Type} {f : α → Nat} {l : List α} {x : α} (h : x ∈ l) : f x ≤ sizeL f l := by
  obtain ⟨i, hi⟩ := List.getElem?_of_mem h
  have := p5 f l i x hi
  unfold sizeL; omega
theorem L4 {α : Type} {f : α → Nat} {l : List α} : l.length ≤ sizeL f l := by unfold sizeL; omega
theorem Q1 {α : Type} {f : α → Nat} {l : List α} {i : Nat} {x : α} (h : l[i]? = some x) : f x ≤ sizeL f l := k6 (H5 h)
theorem Y2 {α : Type} {a b : List α} {i : Nat} (hl : a.length = b.length) (h : a.take i = b.take i) (hi : a.length ≤ i) : a = b := by
  rwa [List.take_of_length_le hi, List.take_of_length_le (by omega)] at h
theorem V7 {α : Type} {a b : List α} {i : Nat} {x : α} (h : a.take i = b.take i) (ha : a[i]? = some x) (hb : b[i]? = some x) : a.take (i + 1) = b.take (i + 1) := by
  rw [List.take_add_one, List.take_add_one, h, ha, hb]
theorem AA7 {α : Type} [Inhabited α] (l : List α) (i : Nat) : ∃ y, i < l.length → l[i]? = some y := ⟨l[i]?.getD default, fun h => by rw [List.getElem?_eq_getElem h]; rfl⟩
def bs {α : Type} (f : α → Int) (l : List α) (i j : Nat) : Nat :=
  if i < j then
    match l[(i + j) / 2]? with
    | some x => if f x < 0 then bs f l ((i + j) / 2 + 1) j else bs f l i ((i + j) / 2)
    | none => i
  else i
termination_by j - i
def bsAt {α : Type} (f : α → Int) (l : List α) (n : Nat) : Bool :=
  match l[n]? with
  | some x => f x == 0
  | none => false
theorem Aa7 {α : Type} {f : α → Int} {l : List α} {i j : Nat} {x : α} (h : i < j) (hx : l[(i + j) / 2]? = some x) (hf : f x < 0) : bs f l i j = bs f l ((i + j) / 2 + 1) j := by
  rw [bs, if_pos h, hx]; simp only [hf, if_true]
theorem Aa8 {α : Type} {f : α → Int} {l : List α} {i j : Nat} {x : α} (h : i < j) (hx : l[(i + j) / 2]? = some x) (hf : ¬ f x < 0) : bs f l i j = bs f l i ((i + j) / 2) := by
  rw [bs, if_pos h, hx]; simp only [hf, if_false]
theorem AO0 {α : Type} {f : α → Int} {l : List α} {i j : Nat} (h : ¬ i < j) : bs f l i j = i := by rw [bs, if_neg h]
theorem AR7 {i j : Nat} (h : i + j ≤ 9223372036854775807) : IntKind.i64.wrap (IntKind.u64.wrap ((i : Int) + (j : Int)) / 2 ^ ((1 : Int).toNat)) = ((i + j) / 2 : Nat) := by
  have h1 : IntKind.u64.wrap ((i : Int) + (j : Int)) = (i : Int) + (j : Int) := by simp only [IntKind.wrap, IntKind.bits, IntKind.signed]; simp; omega
  rw [h1]
  have h2 : ((i : Int) + (j : Int)) / 2 ^ ((1 : Int).toNat) = (((i + j) / 2 : Nat) : Int) := by
    show ((i : Int) + (j : Int)) / 2 = _
    omega
  rw [h2]
  exact in64 (by omega)
def idxFrom {α : Type} (p : α → Bool) : List α → Int → Int
  | [], _ => -1
  | x :: xs, k => if p x then k else idxFrom p xs (k + 1)
theorem i6 {α : Type} (p : α → Bool) : ∀ (l : List α) (k : Int), 0 ≤ k → decide (0 ≤ idxFrom p l k) = l.any p
  | [], _, _ => rfl
  | x :: xs, k, h => by
    unfold idxFrom
    cases hp : p x with
    | true => simp [hp]; exact h
    | false => simp [hp, i6 p xs (k + 1) (by omega)]
structure TClock where
  Off : Int
deriving DecidableEq, Inhabited
def TClock.cs (c : TClock) : List AV := [AV.int c.Off]
theorem TClock.flat (c : TClock) : ∀ x ∈ c.cs, Flat x := (B6 (C7 _ _) C5)
def TClock.size (c : TClock) : Nat := 0
structure TLease where
  Who : Int
  From : Int
  Until : Int
deriving DecidableEq, Inhabited
def TLease.cs (c : TLease) : List AV := [AV.int c.Who, AV.int c.From, AV.int c.Until]
theorem TLease.flat (c : TLease) : ∀ x ∈ c.cs, Flat x := (B6 (C7 _ _) (B6 (C7 _ _) (B6 (C7 _ _) C5)))
def TLease.size (c : TLease) : Nat := 0
structure TWatch where
  True : Int
  Clocks : List TClock
  Given : List TLease
deriving DecidableEq, Inhabited
def TWatch.cs (c : TWatch) : List AV := [AV.int c.True, AV.list 1 (c.Clocks.map TClock.cs), AV.list 3 (c.Given.map TLease.cs)]
def TWatch.size (c : TWatch) : Nat := c.Clocks.length + c.Given.length
structure TWatchAct where
  Kind : Int
  Who : Int
  By : Int
deriving DecidableEq, Inhabited
def TWatchAct.cs (c : TWatchAct) : List AV := [AV.int c.Kind, AV.int c.Who, AV.int c.By]
theorem TWatchAct.flat (c : TWatchAct) : ∀ x ∈ c.cs, Flat x := (B6 (C7 _ _) (B6 (C7 _ _) (B6 (C7 _ _) C5)))
def TWatchAct.size (c : TWatchAct) : Nat := 0
structure TWrite where
  Key : Str
  Val : Str
  Gone : Bool
deriving DecidableEq, Inhabited
def TWrite.cs (c : TWrite) : List AV := [AV.str c.Key, AV.str c.Val, AV.bool c.Gone]
theorem TWrite.flat (c : TWrite) : ∀ x ∈ c.cs, Flat x := (B6 (C9 _) (B6 (C9 _) (B6 (C2 _) C5)))
def TWrite.size (c : TWrite) : Nat := c.Key.length + c.Val.length
def TWrite.ok (c : TWrite) : Prop := c.Key.length ≤ 9223372036854775807 ∧ c.Val.length ≤ 9223372036854775807
structure TRec where
  Kind : Int
  Txn : Int
  Time : Int
  Lead : Int
  Reads : List Str
  Writes : List TWrite
  Yes : Bool
deriving DecidableEq, Inhabited
def TRec.cs (c : TRec) : List AV := [AV.int c.Kind, AV.int c.Txn, AV.int c.Time, AV.int c.Lead, strs c.Reads, AV.list 3 (c.Writes.map TWrite.cs), AV.bool c.Yes]
def TRec.size (c : TRec) : Nat := sizeL (fun x => x.length) c.Reads + sizeL TWrite.size c.Writes
def TRec.ok (c : TRec) : Prop := (∀ x ∈ c.Reads, x.length ≤ 9223372036854775807) ∧ (∀ x ∈ c.Writes, x.ok)
structure TEntry where
  Term : Int
  Rec : TRec
deriving DecidableEq, Inhabited
def TEntry.cs (c : TEntry) : List AV := [AV.int c.Term, AV.int c.Rec.Kind, AV.int c.Rec.Txn, AV.int c.Rec.Time, AV.int c.Rec.Lead, strs c.Rec.Reads, AV.list 3 (c.Rec.Writes.map TWrite.cs), AV.bool c.Rec.Yes]
def TEntry.size (c : TEntry) : Nat := c.Rec.size
def TEntry.ok (c : TEntry) : Prop := c.Rec.ok
structure TDisk where
  Kept : Str
  Loose : Str
deriving DecidableEq, Inhabited
def TDisk.cs (c : TDisk) : List AV := [AV.str c.Kept, AV.str c.Loose]
theorem TDisk.flat (c : TDisk) : ∀ x ∈ c.cs, Flat x := (B6 (C9 _) (B6 (C9 _) C5))
def TDisk.size (c : TDisk) : Nat := c.Kept.length + c.Loose.length
def TDisk.ok (c : TDisk) : Prop := c.Kept.length ≤ 9223372036854775807 ∧ c.Loose.length ≤ 9223372036854775807
structure TReplica where
  Up : Bool
  Log : List TEntry
  Sure : Int
deriving DecidableEq, Inhabited
def TReplica.cs (c : TReplica) : List AV := [AV.bool c.Up, AV.list 8 (c.Log.map TEntry.cs), AV.int c.Sure]
def TReplica.size (c : TReplica) : Nat := sizeL TEntry.size c.Log
def TReplica.ok (c : TReplica) : Prop := (∀ x ∈ c.Log, x.ok)
structure TGroup where
  Reps : List TReplica
  Term : Int
  Lead : Int
deriving DecidableEq, Inhabited
def TGroup.cs (c : TGroup) : List AV := [AV.list 3 (c.Reps.map TReplica.cs), AV.int c.Term, AV.int c.Lead]
def TGroup.size (c : TGroup) : Nat := sizeL TReplica.size c.Reps
def TGroup.ok (c : TGroup) : Prop := (∀ x ∈ c.Reps, x.ok)
structure THouse where
  Group : TGroup
  Disks : List TDisk
deriving DecidableEq, Inhabited
def THouse.cs (c : THouse) : List AV := [AV.list 3 (c.Group.Reps.map TReplica.cs), AV.int c.Group.Term, AV.int c.Group.Lead, AV.list 2 (c.Disks.map TDisk.cs)]
def THouse.size (c : THouse) : Nat := c.Group.size + sizeL TDisk.size c.Disks
def THouse.ok (c : THouse) : Prop := c.Group.ok ∧ (∀ x ∈ c.Disks, x.ok)
structure TGroupAct where
  Kind : Int
  Rep : Int
  Rec : TRec
deriving DecidableEq, Inhabited
def TGroupAct.cs (c : TGroupAct) : List AV := [AV.int c.Kind, AV.int c.Rep, AV.int c.Rec.Kind, AV.int c.Rec.Txn, AV.int c.Rec.Time, AV.int c.Rec.Lead, strs c.Rec.Reads, AV.list 3 (c.Rec.Writes.map TWrite.cs), AV.bool c.Rec.Yes]
def TGroupAct.size (c : TGroupAct) : Nat := c.Rec.size
def TGroupAct.ok (c : TGroupAct) : Prop := c.Rec.ok
structure THouseAct where
  Kind : Int
  Rep : Int
  Rec : TRec
  Keep : Int
  Torn : Bool
deriving DecidableEq, Inhabited
def THouseAct.cs (c : THouseAct) : List AV := [AV.int c.Kind, AV.int c.Rep, AV.int c.Rec.Kind, AV.int c.Rec.Txn, AV.int c.Rec.Time, AV.int c.Rec.Lead, strs c.Rec.Reads, AV.list 3 (c.Rec.Writes.map TWrite.cs), AV.bool c.Rec.Yes, AV.int c.Keep, AV.bool c.Torn]
def THouseAct.size (c : THouseAct) : Nat := c.Rec.size
def THouseAct.ok (c : THouseAct) : Prop := c.Rec.ok
structure TLock where
  Key : Str
  Txn : Int
  Write : Bool
deriving DecidableEq, Inhabited
def TLock.cs (c : TLock) : List AV := [AV.str c.Key, AV.int c.Txn, AV.bool c.Write]
theorem TLock.flat (c : TLock) : ∀ x ∈ c.cs, Flat x := (B6 (C9 _) (B6 (C7 _ _) (B6 (C2 _) C5)))
def TLock.size (c : TLock) : Nat := c.Key.length
def TLock.ok (c : TLock) : Prop := c.Key.length ≤ 9223372036854775807
structure TVer where
  Time : Int
  Val : Str
  Gone : Bool
deriving DecidableEq, Inhabited
def TVer.cs (c : TVer) : List AV := [AV.int c.Time, AV.str c.Val, AV.bool c.Gone]
theorem TVer.flat (c : TVer) : ∀ x ∈ c.cs, Flat x := (B6 (C7 _ _) (B6 (C9 _) (B6 (C2 _) C5)))
def TVer.size (c : TVer) : Nat := c.Val.length
def TVer.ok (c : TVer) : Prop := c.Val.length ≤ 9223372036854775807
structure TCell where
  Key : Str
  Vers : List TVer
deriving DecidableEq, Inhabited
def TCell.cs (c : TCell) : List AV := [AV.str c.Key, AV.list 3 (c.Vers.map TVer.cs)]
def TCell.size (c : TCell) : Nat := c.Key.length + sizeL TVer.size c.Vers
def TCell.ok (c : TCell) : Prop := c.Key.length ≤ 9223372036854775807 ∧ (∀ x ∈ c.Vers, x.ok)
structure THeld where
  Txn : Int
  Time : Int
  Lead : Int
  Reads : List Str
  Writes : List TWrite
deriving DecidableEq, Inhabited
def THeld.cs (c : THeld) : List AV := [AV.int c.Txn, AV.int c.Time, AV.int c.Lead, strs c.Reads, AV.list 3 (c.Writes.map TWrite.cs)]
def THeld.size (c : THeld) : Nat := sizeL (fun x => x.length) c.Reads + sizeL TWrite.size c.Writes
def THeld.ok (c : THeld) : Prop := (∀ x ∈ c.Reads, x.length ≤ 9223372036854775807) ∧ (∀ x ∈ c.Writes, x.ok)
structure TTold where
  Txn : Int
  Yes : Bool
  Time : Int
deriving DecidableEq, Inhabited
def TTold.cs (c : TTold) : List AV := [AV.int c.Txn, AV.bool c.Yes, AV.int c.Time]
theorem TTold.flat (c : TTold) : ∀ x ∈ c.cs, Flat x := (B6 (C7 _ _) (B6 (C2 _) (B6 (C7 _ _) C5)))
def TTold.size (c : TTold) : Nat := 0
structure TState where
  Floor : Int
  Cells : List TCell
  Held : List THeld
  Told : List TTold
deriving DecidableEq, Inhabited
def TState.cs (c : TState) : List AV := [AV.int c.Floor, AV.list 2 (c.Cells.map TCell.cs), AV.list 5 (c.Held.map THeld.cs), AV.list 3 (c.Told.map TTold.cs)]
def TState.size (c : TState) : Nat := sizeL TCell.size c.Cells + sizeL THeld.size c.Held + c.Told.length
def TState.ok (c : TState) : Prop := (∀ x ∈ c.Cells, x.ok) ∧ (∀ x ∈ c.Held, x.ok)
structure TSpan where
  Low : Int
  High : Int
deriving DecidableEq, Inhabited
def TSpan.cs (c : TSpan) : List AV := [AV.int c.Low, AV.int c.High]
theorem TSpan.flat (c : TSpan) : ∀ x ∈ c.cs, Flat x := (B6 (C7 _ _) (B6 (C7 _ _) C5))
def TSpan.size (c : TSpan) : Nat := 0
structure TOrder where
  Txn : Int
  Reads : List Str
  Writes : List TWrite
deriving DecidableEq, Inhabited
def TOrder.cs (c : TOrder) : List AV := [AV.int c.Txn, strs c.Reads, AV.list 3 (c.Writes.map TWrite.cs)]
def TOrder.size (c : TOrder) : Nat := sizeL (fun x => x.length) c.Reads + sizeL TWrite.size c.Writes
def TOrder.ok (c : TOrder) : Prop := (∀ x ∈ c.Reads, x.length ≤ 9223372036854775807) ∧ (∀ x ∈ c.Writes, x.ok)
structure TDeal where
  Cuts : List Str
  States : List TState
  Orders : List TOrder
deriving DecidableEq, Inhabited
def TDeal.cs (c : TDeal) : List AV := [strs c.Cuts, AV.list 4 (c.States.map TState.cs), AV.list 3 (c.Orders.map TOrder.cs)]
def TDeal.size (c : TDeal) : Nat := sizeL (fun x => x.length) c.Cuts + sizeL TState.size c.States + sizeL TOrder.size c.Orders
def TDeal.ok (c : TDeal) : Prop := (∀ x ∈ c.Cuts, x.length ≤ 9223372036854775807) ∧ (∀ x ∈ c.States, x.ok) ∧ (∀ x ∈ c.Orders, x.ok)
structure TDealAct where
  Kind : Int
  Txn : Int
  Part : Int
  Time : Int
deriving DecidableEq, Inhabited
def TDealAct.cs (c : TDealAct) : List AV := [AV.int c.Kind, AV.int c.Txn, AV.int c.Part, AV.int c.Time]
theorem TDealAct.flat (c : TDealAct) : ∀ x ∈ c.cs, Flat x := (B6 (C7 _ _) (B6 (C7 _ _) (B6 (C7 _ _) (B6 (C7 _ _) C5))))
def TDealAct.size (c : TDealAct) : Nat := 0
structure TOp where
  Kind : Int
  Key : Str
  Val : Str
  By : Int
deriving DecidableEq, Inhabited
def TOp.cs (c : TOp) : List AV := [AV.int c.Kind, AV.str c.Key, AV.str c.Val, AV.int c.By]
theorem TOp.flat (c : TOp) : ∀ x ∈ c.cs, Flat x := (B6 (C7 _ _) (B6 (C9 _) (B6 (C9 _) (B6 (C7 _ _) C5))))
def TOp.size (c : TOp) : Nat := c.Key.length + c.Val.length
def TOp.ok (c : TOp) : Prop := c.Key.length ≤ 9223372036854775807 ∧ c.Val.length ≤ 9223372036854775807
structure TGot where
  Key : Str
  Val : Str
  There : Bool
deriving DecidableEq, Inhabited
def TGot.cs (c : TGot) : List AV := [AV.str c.Key, AV.str c.Val, AV.bool c.There]
theorem TGot.flat (c : TGot) : ∀ x ∈ c.cs, Flat x := (B6 (C9 _) (B6 (C9 _) (B6 (C2 _) C5)))
def TGot.size (c : TGot) : Nat := c.Key.length + c.Val.length
def TGot.ok (c : TGot) : Prop := c.Key.length ≤ 9223372036854775807 ∧ c.Val.length ≤ 9223372036854775807
structure TWorldTxn where
  Ops : List TOp
  Got : List TGot
  Terms : List Int
  Begin : Int
  End : Int
  Yes : Bool
  Time : Int
  Dead : Bool
  Put : Bool
  Stopped : Bool
deriving DecidableEq, Inhabited
def TWorldTxn.cs (c : TWorldTxn) : List AV := [AV.list 4 (c.Ops.map TOp.cs), AV.list 3 (c.Got.map TGot.cs), ints c.Terms, AV.int c.Begin, AV.int c.End, AV.bool c.Yes, AV.int c.Time, AV.bool c.Dead, AV.bool c.Put, AV.bool c.Stopped]
def TWorldTxn.size (c : TWorldTxn) : Nat := sizeL TOp.size c.Ops + sizeL TGot.size c.Got + c.Terms.length
def TWorldTxn.ok (c : TWorldTxn) : Prop := (∀ x ∈ c.Ops, x.ok) ∧ (∀ x ∈ c.Got, x.ok)
structure TWorldLook where
  Node : Int
  Keys : List Str
  Got : List TGot
  Time : Int
  Begin : Int
  End : Int
deriving DecidableEq, Inhabited
def TWorldLook.cs (c : TWorldLook) : List AV := [AV.int c.Node, strs c.Keys, AV.list 3 (c.Got.map TGot.cs), AV.int c.Time, AV.int c.Begin, AV.int c.End]
def TWorldLook.size (c : TWorldLook) : Nat := sizeL (fun x => x.length) c.Keys + sizeL TGot.size c.Got
def TWorldLook.ok (c : TWorldLook) : Prop := (∀ x ∈ c.Keys, x.length ≤ 9223372036854775807) ∧ (∀ x ∈ c.Got, x.ok)
structure TWorld where
  Now : Int
  Count : Int
  Clocks : List TClock
  Cuts : List Str
  Groups : List TGroup
  Locks : List (List TLock)
  Promised : List Int
  Txns : List TWorldTxn
  Looks : List TWorldLook
deriving DecidableEq, Inhabited
def TWorld.cs (c : TWorld) : List AV := [AV.int c.Now, AV.int c.Count, AV.list 1 (c.Clocks.map TClock.cs), strs c.Cuts, AV.list 3 (c.Groups.map TGroup.cs), AV.list 1 (c.Locks.map fun x => [AV.list 3 (x.map TLock.cs)]), ints c.Promised, AV.list 10 (c.Txns.map TWorldTxn.cs), AV.list 6 (c.Looks.map TWorldLook.cs)]
def TWorld.size (c : TWorld) : Nat := c.Clocks.length + sizeL (fun x => x.length) c.Cuts + sizeL TGroup.size c.Groups + sizeL (fun x => sizeL TLock.size x) c.Locks + c.Promised.length + sizeL TWorldTxn.size c.Txns + sizeL TWorldLook.size c.Looks
def TWorld.ok (c : TWorld) : Prop := (∀ x ∈ c.Cuts, x.length ≤ 9223372036854775807) ∧ (∀ x ∈ c.Groups, x.ok) ∧ (∀ x ∈ c.Locks, (∀ y ∈ x, y.ok)) ∧ (∀ x ∈ c.Txns, x.ok) ∧ (∀ x ∈ c.Looks, x.ok)
structure TWorldAct where
  Kind : Int
  At : Int
  By : Int
deriving DecidableEq, Inhabited
def TWorldAct.cs (c : TWorldAct) : List AV := [AV.int c.Kind, AV.int c.At, AV.int c.By]
theorem TWorldAct.flat (c : TWorldAct) : ∀ x ∈ c.cs, Flat x := (B6 (C7 _ _) (B6 (C7 _ _) (B6 (C7 _ _) C5)))
def TWorldAct.size (c : TWorldAct) : Nat := 0
structure TDeed where
  Txn : Int
  Begin : Int
  End : Int
  Yes : Bool
  Look : Bool
  Time : Int
  Got : List TGot
  Writes : List TWrite
deriving DecidableEq, Inhabited
def TDeed.cs (c : TDeed) : List AV := [AV.int c.Txn, AV.int c.Begin, AV.int c.End, AV.bool c.Yes, AV.bool c.Look, AV.int c.Time, AV.list 3 (c.Got.map TGot.cs), AV.list 3 (c.Writes.map TWrite.cs)]
def TDeed.size (c : TDeed) : Nat := sizeL TGot.size c.Got + sizeL TWrite.size c.Writes
def TDeed.ok (c : TDeed) : Prop := (∀ x ∈ c.Got, x.ok) ∧ (∀ x ∈ c.Writes, x.ok)
structure TPlaces where
  Ver : Int
  Cuts : List Str
  Groups : List Int
deriving DecidableEq, Inhabited
def TPlaces.cs (c : TPlaces) : List AV := [AV.int c.Ver, strs c.Cuts, ints c.Groups]
def TPlaces.size (c : TPlaces) : Nat := sizeL (fun x => x.length) c.Cuts + c.Groups.length
def TPlaces.ok (c : TPlaces) : Prop := (∀ x ∈ c.Cuts, x.length ≤ 9223372036854775807)
structure TAtlas where
  Maps : List TPlaces
  Knows : List Int
deriving DecidableEq, Inhabited
def TAtlas.cs (c : TAtlas) : List AV := [AV.list 3 (c.Maps.map TPlaces.cs), ints c.Knows]
def TAtlas.size (c : TAtlas) : Nat := sizeL TPlaces.size c.Maps + c.Knows.length
def TAtlas.ok (c : TAtlas) : Prop := (∀ x ∈ c.Maps, x.ok)
structure TMove where
  Low : Str
  High : Str
  Phase : Int
  From : List TWrite
  To : List TWrite
  Last : Str
  Over : Bool
deriving DecidableEq, Inhabited
def TMove.cs (c : TMove) : List AV := [AV.str c.Low, AV.str c.High, AV.int c.Phase, AV.list 3 (c.From.map TWrite.cs), AV.list 3 (c.To.map TWrite.cs), AV.str c.Last, AV.bool c.Over]
def TMove.size (c : TMove) : Nat := c.Low.length + c.High.length + sizeL TWrite.size c.From + sizeL TWrite.size c.To + c.Last.length
def TMove.ok (c : TMove) : Prop := c.Low.length ≤ 9223372036854775807 ∧ c.High.length ≤ 9223372036854775807 ∧ (∀ x ∈ c.From, x.ok) ∧ (∀ x ∈ c.To, x.ok) ∧ c.Last.length ≤ 9223372036854775807
structure TMoveAct where
  Kind : Int
  Write : TWrite
  Many : Int
deriving DecidableEq, Inhabited
def TMoveAct.cs (c : TMoveAct) : List AV := [AV.int c.Kind, AV.str c.Write.Key, AV.str c.Write.Val, AV.bool c.Write.Gone, AV.int c.Many]
theorem TMoveAct.flat (c : TMoveAct) : ∀ x ∈ c.cs, Flat x := (B6 (C7 _ _) (B6 (C9 _) (B6 (C9 _) (B6 (C2 _) (B6 (C7 _ _) C5)))))
def TMoveAct.size (c : TMoveAct) : Nat := c.Write.size
def TMoveAct.ok (c : TMoveAct) : Prop := c.Write.ok
structure TFeedItem where
  Time : Int
  Group : Int
  Key : Str
  Val : Str
  Gone : Bool
deriving DecidableEq, Inhabited
def TFeedItem.cs (c : TFeedItem) : List AV := [AV.int c.Time, AV.int c.Group, AV.str c.Key, AV.str c.Val, AV.bool c.Gone]
theorem TFeedItem.flat (c : TFeedItem) : ∀ x ∈ c.cs, Flat x := (B6 (C7 _ _) (B6 (C7 _ _) (B6 (C9 _) (B6 (C9 _) (B6 (C2 _) C5)))))
def TFeedItem.size (c : TFeedItem) : Nat := c.Key.length + c.Val.length
def TFeedItem.ok (c : TFeedItem) : Prop := c.Key.length ≤ 9223372036854775807 ∧ c.Val.length ≤ 9223372036854775807
structure TFeeder where
  Done : Int
deriving DecidableEq, Inhabited
def TFeeder.cs (c : TFeeder) : List AV := [AV.int c.Done]
theorem TFeeder.flat (c : TFeeder) : ∀ x ∈ c.cs, Flat x := (B6 (C7 _ _) C5)
def TFeeder.size (c : TFeeder) : Nat := 0
structure TIdx where
  Name : Str
  Col : Int
  Stage : Int
deriving DecidableEq, Inhabited
def TIdx.cs (c : TIdx) : List AV := [AV.str c.Name, AV.int c.Col, AV.int c.Stage]
theorem TIdx.flat (c : TIdx) : ∀ x ∈ c.cs, Flat x := (B6 (C9 _) (B6 (C7 _ _) (B6 (C7 _ _) C5)))
def TIdx.size (c : TIdx) : Nat := c.Name.length
def TIdx.ok (c : TIdx) : Prop := c.Name.length ≤ 9223372036854775807
structure TTable where
  Name : Str
  Cols : List Str
  Idxs : List TIdx
deriving DecidableEq, Inhabited
def TTable.cs (c : TTable) : List AV := [AV.str c.Name, strs c.Cols, AV.list 3 (c.Idxs.map TIdx.cs)]
def TTable.size (c : TTable) : Nat := c.Name.length + sizeL (fun x => x.length) c.Cols + sizeL TIdx.size c.Idxs
def TTable.ok (c : TTable) : Prop := c.Name.length ≤ 9223372036854775807 ∧ (∀ x ∈ c.Cols, x.length ≤ 9223372036854775807) ∧ (∀ x ∈ c.Idxs, x.ok)
structure TRow where
  Vals : List Str
deriving DecidableEq, Inhabited
def TRow.cs (c : TRow) : List AV := [strs c.Vals]
def TRow.size (c : TRow) : Nat := sizeL (fun x => x.length) c.Vals
def TRow.ok (c : TRow) : Prop := (∀ x ∈ c.Vals, x.length ≤ 9223372036854775807)
structure TRowAct where
  Kind : Int
  Old : TRow
  New : TRow
deriving DecidableEq, Inhabited
def TRowAct.cs (c : TRowAct) : List AV := [AV.int c.Kind, strs c.Old.Vals, strs c.New.Vals]
def TRowAct.size (c : TRowAct) : Nat := c.Old.size + c.New.size
def TRowAct.ok (c : TRowAct) : Prop := c.Old.ok ∧ c.New.ok
structure TShift where
  Name : Str
  Ways : List TTable
  At : List Int
  Store : List TWrite
deriving DecidableEq, Inhabited
def TShift.cs (c : TShift) : List AV := [AV.str c.Name, AV.list 3 (c.Ways.map TTable.cs), ints c.At, AV.list 3 (c.Store.map TWrite.cs)]
def TShift.size (c : TShift) : Nat := c.Name.length + sizeL TTable.size c.Ways + c.At.length + sizeL TWrite.size c.Store
def TShift.ok (c : TShift) : Prop := c.Name.length ≤ 9223372036854775807 ∧ (∀ x ∈ c.Ways, x.ok) ∧ (∀ x ∈ c.Store, x.ok)
structure TShiftAct where
  Server : Int
  Step : Int
  Act : TRowAct
deriving DecidableEq, Inhabited
def TShiftAct.cs (c : TShiftAct) : List AV := [AV.int c.Server, AV.int c.Step, AV.int c.Act.Kind, strs c.Act.Old.Vals, strs c.Act.New.Vals]
def TShiftAct.size (c : TShiftAct) : Nat := c.Act.size
def TShiftAct.ok (c : TShiftAct) : Prop := c.Act.ok
structure TVLease where
  Ver : Int
  Until : Int
deriving DecidableEq, Inhabited
def TVLease.cs (c : TVLease) : List AV := [AV.int c.Ver, AV.int c.Until]
theorem TVLease.flat (c : TVLease) : ∀ x ∈ c.cs, Flat x := (B6 (C7 _ _) (B6 (C7 _ _) C5))
def TVLease.size (c : TVLease) : Nat := 0
structure TRenew where
  Now : Int
  Master : TClock
  Clocks : List TClock
  Ver : Int
  Leases : List TVLease
deriving DecidableEq, Inhabited
def TRenew.cs (c : TRenew) : List AV := [AV.int c.Now, AV.int c.Master.Off, AV.list 1 (c.Clocks.map TClock.cs), AV.int c.Ver, AV.list 2 (c.Leases.map TVLease.cs)]
def TRenew.size (c : TRenew) : Nat := c.Clocks.length + c.Leases.length
structure TRenewAct where
  Kind : Int
  Who : Int
  By : Int
deriving DecidableEq, Inhabited
def TRenewAct.cs (c : TRenewAct) : List AV := [AV.int c.Kind, AV.int c.Who, AV.int c.By]
theorem TRenewAct.flat (c : TRenewAct) : ∀ x ∈ c.cs, Flat x := (B6 (C7 _ _) (B6 (C7 _ _) (B6 (C7 _ _) C5)))
def TRenewAct.size (c : TRenewAct) : Nat := 0
structure TFill where
  Last : Str
  Over : Bool
deriving DecidableEq, Inhabited
def TFill.cs (c : TFill) : List AV := [AV.str c.Last, AV.bool c.Over]
theorem TFill.flat (c : TFill) : ∀ x ∈ c.cs, Flat x := (B6 (C9 _) (B6 (C2 _) C5))
def TFill.size (c : TFill) : Nat := c.Last.length
def TFill.ok (c : TFill) : Prop := c.Last.length ≤ 9223372036854775807
structure TWork where
  Shift : TShift
  Up : TFill
  Down : TFill
deriving DecidableEq, Inhabited
def TWork.cs (c : TWork) : List AV := [AV.str c.Shift.Name, AV.list 3 (c.Shift.Ways.map TTable.cs), ints c.Shift.At, AV.list 3 (c.Shift.Store.map TWrite.cs), AV.str c.Up.Last, AV.bool c.Up.Over, AV.str c.Down.Last, AV.bool c.Down.Over]
def TWork.size (c : TWork) : Nat := c.Shift.size + c.Up.size + c.Down.size
def TWork.ok (c : TWork) : Prop := c.Shift.ok ∧ c.Up.ok ∧ c.Down.ok
structure TWorkAct where
  Kind : Int
  Many : Int
  Act : TShiftAct
deriving DecidableEq, Inhabited
def TWorkAct.cs (c : TWorkAct) : List AV := [AV.int c.Kind, AV.int c.Many, AV.int c.Act.Server, AV.int c.Act.Step, AV.int c.Act.Act.Kind, strs c.Act.Act.Old.Vals, strs c.Act.Act.New.Vals]
def TWorkAct.size (c : TWorkAct) : Nat := c.Act.size
def TWorkAct.ok (c : TWorkAct) : Prop := c.Act.ok
structure TStmt where
  Kind : Int
  Act : TRowAct
  Idx : Str
  Low : Str
  High : Str
deriving DecidableEq, Inhabited
def TStmt.cs (c : TStmt) : List AV := [AV.int c.Kind, AV.int c.Act.Kind, strs c.Act.Old.Vals, strs c.Act.New.Vals, AV.str c.Idx, AV.str c.Low, AV.str c.High]
def TStmt.size (c : TStmt) : Nat := c.Act.size + c.Idx.length + c.Low.length + c.High.length
def TStmt.ok (c : TStmt) : Prop := c.Act.ok ∧ c.Idx.length ≤ 9223372036854775807 ∧ c.Low.length ≤ 9223372036854775807 ∧ c.High.length ≤ 9223372036854775807
structure TCopy where
  Time : Int
  Rows : List TWrite
deriving DecidableEq, Inhabited
def TCopy.cs (c : TCopy) : List AV := [AV.int c.Time, AV.list 3 (c.Rows.map TWrite.cs)]
def TCopy.size (c : TCopy) : Nat := sizeL TWrite.size c.Rows
def TCopy.ok (c : TCopy) : Prop := (∀ x ∈ c.Rows, x.ok)
structure TDiff where
  From : Int
  To : Int
  List_ : List TFeedItem
deriving DecidableEq, Inhabited
def TDiff.cs (c : TDiff) : List AV := [AV.int c.From, AV.int c.To, AV.list 5 (c.List_.map TFeedItem.cs)]
def TDiff.size (c : TDiff) : Nat := sizeL TFeedItem.size c.List_
def TDiff.ok (c : TDiff) : Prop := (∀ x ∈ c.List_, x.ok)
structure TLiveJob where
  Ver : Int
  Fill : Bool
  Act : TRowAct
  Row : TRow
deriving DecidableEq, Inhabited
def TLiveJob.cs (c : TLiveJob) : List AV := [AV.int c.Ver, AV.bool c.Fill, AV.int c.Act.Kind, strs c.Act.Old.Vals, strs c.Act.New.Vals, strs c.Row.Vals]
def TLiveJob.size (c : TLiveJob) : Nat := c.Act.size + c.Row.size
def TLiveJob.ok (c : TLiveJob) : Prop := c.Act.ok ∧ c.Row.ok
structure TLive where
  Name : Str
  Ways : List TTable
  Low : Int
  Since : List Int
  Jobs : List TLiveJob
  World : TWorld
deriving DecidableEq, Inhabited
def TLive.cs (c : TLive) : List AV := [AV.str c.Name, AV.list 3 (c.Ways.map TTable.cs), AV.int c.Low, ints c.Since, AV.list 6 (c.Jobs.map TLiveJob.cs), AV.int c.World.Now, AV.int c.World.Count, AV.list 1 (c.World.Clocks.map TClock.cs), strs c.World.Cuts, AV.list 3 (c.World.Groups.map TGroup.cs), AV.list 1 (c.World.Locks.map fun x => [AV.list 3 (x.map TLock.cs)]), ints c.World.Promised, AV.list 10 (c.World.Txns.map TWorldTxn.cs), AV.list 6 (c.World.Looks.map TWorldLook.cs)]
def TLive.size (c : TLive) : Nat := c.Name.length + sizeL TTable.size c.Ways + c.Since.length + sizeL TLiveJob.size c.Jobs + c.World.size
def TLive.ok (c : TLive) : Prop := c.Name.length ≤ 9223372036854775807 ∧ (∀ x ∈ c.Ways, x.ok) ∧ (∀ x ∈ c.Jobs, x.ok) ∧ c.World.ok
structure TLiveAct where
  Kind : Int
  Act : TWorldAct
deriving DecidableEq, Inhabited
def TLiveAct.cs (c : TLiveAct) : List AV := [AV.int c.Kind, AV.int c.Act.Kind, AV.int c.Act.At, AV.int c.Act.By]
theorem TLiveAct.flat (c : TLiveAct) : ∀ x ∈ c.cs, Flat x := (B6 (C7 _ _) (B6 (C7 _ _) (B6 (C7 _ _) (B6 (C7 _ _) C5))))
def TLiveAct.size (c : TLiveAct) : Nat := 0
structure TLetter where
  From : Int
  To : Int
  Due : Int
  Body : Str
deriving DecidableEq, Inhabited
def TLetter.cs (c : TLetter) : List AV := [AV.int c.From, AV.int c.To, AV.int c.Due, AV.str c.Body]
theorem TLetter.flat (c : TLetter) : ∀ x ∈ c.cs, Flat x := (B6 (C7 _ _) (B6 (C7 _ _) (B6 (C7 _ _) (B6 (C9 _) C5))))
def TLetter.size (c : TLetter) : Nat := c.Body.length
def TLetter.ok (c : TLetter) : Prop := c.Body.length ≤ 9223372036854775807
structure TNet where
  Now : Int
  Homes : List Int
  Far : Int
  Under : List TLetter
deriving DecidableEq, Inhabited
def TNet.cs (c : TNet) : List AV := [AV.int c.Now, ints c.Homes, AV.int c.Far, AV.list 4 (c.Under.map TLetter.cs)]
def TNet.size (c : TNet) : Nat := c.Homes.length + sizeL TLetter.size c.Under
def TNet.ok (c : TNet) : Prop := (∀ x ∈ c.Under, x.ok)
structure TVoter where
  Up : Bool
  Term : Int
  For : Int
  Yes : List Int
  Leads : Bool
deriving DecidableEq, Inhabited
def TVoter.cs (c : TVoter) : List AV := [AV.bool c.Up, AV.int c.Term, AV.int c.For, ints c.Yes, AV.bool c.Leads]
def TVoter.size (c : TVoter) : Nat := c.Yes.length
structure TWon where
  Term : Int
  Who : Int
deriving DecidableEq, Inhabited
def TWon.cs (c : TWon) : List AV := [AV.int c.Term, AV.int c.Who]
theorem TWon.flat (c : TWon) : ∀ x ∈ c.cs, Flat x := (B6 (C7 _ _) (B6 (C7 _ _) C5))
def TWon.size (c : TWon) : Nat := 0
structure TPoll where
  Voters : List TVoter
  Net : TNet
  Won : List TWon
deriving DecidableEq, Inhabited
def TPoll.cs (c : TPoll) : List AV := [AV.list 5 (c.Voters.map TVoter.cs), AV.int c.Net.Now, ints c.Net.Homes, AV.int c.Net.Far, AV.list 4 (c.Net.Under.map TLetter.cs), AV.list 2 (c.Won.map TWon.cs)]
def TPoll.size (c : TPoll) : Nat := sizeL TVoter.size c.Voters + c.Net.size + c.Won.length
def TPoll.ok (c : TPoll) : Prop := c.Net.ok
structure TPollAct where
  Kind : Int
  Who : Int
  By : Int
deriving DecidableEq, Inhabited
def TPollAct.cs (c : TPollAct) : List AV := [AV.int c.Kind, AV.int c.Who, AV.int c.By]
theorem TPollAct.flat (c : TPollAct) : ∀ x ∈ c.cs, Flat x := (B6 (C7 _ _) (B6 (C7 _ _) (B6 (C7 _ _) C5)))
def TPollAct.size (c : TPollAct) : Nat := 0
end Go.M

namespace Go.M

def within (n lo hi : Int) : Bool := decide (lo ≤ n) && decide (n ≤ hi)
def lowDig (b : UInt8) : Bool := (decide ((97 : Int) ≤ (b.toNat : Int)) && decide ((b.toNat : Int) ≤ 122)) || (decide ((48 : Int) ≤ (b.toNat : Int)) && decide ((b.toNat : Int) ≤ 57))
def idxB (s : Str) (c : UInt8) : Int := firstIdx ⟨s.toArray⟩ c
def hasB (s o : Str) : Bool := s.all fun c => !(!lowDig c && decide (idxB o c < 0))
def goodKey (s : Str) : Bool := within s.length 1 12 && hasB s [46, 47]
def goodVal (s : Str) : Bool := decide ((s.length : Int) ≤ 24) && hasB s [46, 45, 44, 95]
def l3Bytes (s o : Str) : Bool := s.all fun c => (lowDig c || o.any fun d => ((c.toNat : Int) == (d.toNat : Int)))
def l3Key (s : Str) : Bool := within s.length 1 12 && l3Bytes s [46, 47]
theorem AU9 (c : UInt8) (s o : Str) : hasB (c :: s) o = (!(!lowDig c && decide (idxB o c < 0)) && hasB s o) := rfl
theorem AF6 (c : UInt8) (s o : Str) : l3Bytes (c :: s) o = ((lowDig c || o.any fun d => ((c.toNat : Int) == (d.toNat : Int))) && l3Bytes s o) := rfl
end Go.M

namespace Go.M
end Go.M

set_option linter.unusedSimpArgs false
namespace Go.M
theorem idxB_neg (o : Str) (c : UInt8) : decide (idxB o c < 0) = !(o.any fun d => ((c.toNat : Int) == (d.toNat : Int))) := by
  have hm : (o.any fun d => ((c.toNat : Int) == (d.toNat : Int))) = decide (c ∈ o) := by
    rw [Bool.eq_iff_iff]
    simp only [List.any_eq_true, beq_iff_eq, decide_eq_true_eq]
    constructor
    · rintro ⟨d, hd, he⟩
      have : c = d := UInt8.toNat_inj.1 (by exact_mod_cast he)
      exact this ▸ hd
    · intro h; exact ⟨c, h, rfl⟩
  rw [hm]
  unfold idxB firstIdx
  have hsz : (ByteArray.mk o.toArray).size = o.length := by simp [ByteArray.size]
  have hget : ∀ i, i < o.length → (ByteArray.mk o.toArray)[i]! = o[i]! := fun i hi => by
    simp [getElem!_def, ByteArray.getElem?_lt', hsz, hi]
    rfl
  rw [hsz]
  cases hf : (List.range o.length).find? fun i => (ByteArray.mk o.toArray)[i]! == c with
  | some i =>
    have h1 := List.find?_some hf
    have h2 := List.mem_range.1 (List.mem_of_find?_eq_some hf)
    rw [hget i h2] at h1
    have h3 : c ∈ o := by
      have : o[i]! = c := by simpa using h1
      rw [← this, getElem!_pos o i h2]
      exact List.getElem_mem h2
    simp [h3]
  | none =>
    have h1 := List.find?_eq_none.1 hf
    have h3 : ¬ c ∈ o := fun hm => by
      obtain ⟨i, hi, he⟩ := List.getElem_of_mem hm
      have := h1 i (List.mem_range.2 hi)
      rw [hget i hi, getElem!_pos o i hi, he] at this
      simp at this
    simp [h3]
theorem An2 (s o : Str) : hasB s o = l3Bytes s o := by
  unfold hasB l3Bytes
  congr 1
  funext c
  rw [idxB_neg]
  cases lowDig c <;> simp
theorem m4 (s : Str) : goodKey s = l3Key s := by unfold goodKey l3Key; rw [An2]
theorem M4 : ∀ a : Str, Op.bytesLess a a = false
  | [] => rfl
  | a :: x => by simp [Op.bytesLess, M4 x]
theorem bytesLess_tri : ∀ a b : Str, Op.bytesLess a b = !(Op.bytesLess b a || b == a)
  | [], [] => rfl
  | [], _ :: _ => rfl
  | _ :: _, [] => rfl
  | a :: x, b :: y => by
    have ih := bytesLess_tri x y
    simp only [Op.bytesLess]
    by_cases hab : a = b
    · subst hab
      simp [ih]
    · have h1 : (a == b) = false := by simpa using hab
      have h2 : (b == a) = false := by simpa using fun h => hab h.symm
      have h3 : (b :: y == a :: x) = false := by simp [h2]
      simp only [h1, h2, h3, Bool.false_and, Bool.or_false]
      rw [Bool.eq_iff_iff]
      simp only [decide_eq_true_eq, Bool.not_eq_true', decide_eq_false_iff_not, UInt8.not_lt]
      constructor
      · exact UInt8.le_of_lt
      · exact fun h => UInt8.lt_of_le_of_ne h hab
end Go.M

namespace Go.M
def adj {α : Type} (p : α → α → Bool) : List α → Bool
  | [] => true
  | [_] => true
  | x :: y :: l => p x y && adj p (y :: l)
theorem Ab9 {α : Type} {l : List α} {k : Nat} {x y : α} (hy : l[k]? = some y) (hx : l[k + 1]? = some x) : l.drop k = y :: x :: l.drop (k + 2) := by
  rw [Go.AV.drop_some hy, Go.AV.drop_some hx]
theorem d7 {α : Type} {p : α → α → Bool} {l : List α} {i : Nat} {x y : α} (hx : l[i]? = some x) (hy : l[i - 1]? = some y) (h : 0 < i → p y x = true) : adj p (l.drop (i - 1)) = adj p (l.drop (i + 1 - 1)) := by
  cases i with
  | zero => rfl
  | succ k =>
    simp only [Nat.add_sub_cancel] at *
    rw [Ab9 hy hx, Go.AV.drop_some hx, adj, h (by omega), Bool.true_and]
theorem d8 {α : Type} {p : α → α → Bool} {l : List α} {i : Nat} {x y : α} (hx : l[i]? = some x) (hy : l[i - 1]? = some y) (h0 : 0 < i) (h : p y x = false) : adj p (l.drop (i - 1)) = false := by
  cases i with
  | zero => omega
  | succ k =>
    simp only [Nat.add_sub_cancel] at *
    rw [Ab9 hy hx, adj, h, Bool.false_and]
theorem U4 {α : Type} {p : α → α → Bool} {l : List α} {i : Nat} (h : l.length ≤ i) : adj p (l.drop (i - 1)) = true := by
  have hl : (l.drop (i - 1)).length ≤ 1 := by rw [List.length_drop]; omega
  match hd : l.drop (i - 1), hl with
  | [], _ => rfl
  | [x], _ => rfl
theorem AV0 {α : Type} {p q : α → α → Bool} (h : ∀ a b, p a b = q a b) : ∀ l : List α, adj p l = adj q l
  | [] => rfl
  | [_] => rfl
  | x :: y :: l => by rw [adj, adj, h, AV0 h (y :: l)]
def isTime (t : Int) : Bool := within t 1 100000
def isGroup (g : Int) : Bool := within g 0 3
def isStored (val : Str) (gone : Bool) : Bool := goodVal val && !(gone && val != [])
def goodItem (c : TFeedItem) : Bool := isTime c.Time && isGroup c.Group && goodKey c.Key && isStored c.Val c.Gone
def l3Val (s : Str) : Bool := decide ((s.length : Int) ≤ 24) && l3Bytes s [46, 45, 44, 95]
def l3Write (key val : Str) (gone : Bool) : Bool := l3Key key && l3Val val && (!gone || val == [])
def l23Good (c : TFeedItem) : Bool := within c.Time 1 100000 && within c.Group 0 3 && l3Write c.Key c.Val c.Gone
def cmpInt (x y : Int) : Int := if x < y then -1 else if y < x then 1 else 0
def cmpStr (x y : Str) : Int := if Op.bytesLess x y then -1 else if Op.bytesLess y x then 1 else 0
def orInt : List Int → Int
  | [] => 0
  | x :: l => if x = 0 then orInt l else x
def compareItems (a b : TFeedItem) : Int := orInt [cmpInt a.Time b.Time, cmpInt a.Group b.Group, cmpStr a.Key b.Key]
def l23Ahead (a b : TFeedItem) : Bool := if a.Time ≠ b.Time then decide (a.Time < b.Time) else if a.Group ≠ b.Group then decide (a.Group < b.Group) else Op.bytesLess a.Key b.Key
def isFeed (l : List TFeedItem) : Bool := adj (fun a b => !decide (0 ≤ compareItems a b)) l && decide ((l.length : Int) ≤ 400)
def l23Feed (l : List TFeedItem) : Bool := (l.all l23Good && adj l23Ahead l) && decide ((l.length : Int) ≤ 400)
theorem Ap5 (s : Str) : goodVal s = l3Val s := by unfold goodVal l3Val; rw [An2]
theorem y9 (s : Str) (g : Bool) : isStored s g = (l3Val s && (!g || s == [])) := by
  unfold isStored; rw [Ap5]; cases g <;> simp [bne]
theorem AJ1 (c : TFeedItem) : goodItem c = l23Good c := by
  unfold goodItem l23Good l3Write isTime isGroup
  rw [y9, m4]; simp only [Bool.and_assoc]
theorem AD7 (a b : TFeedItem) : (!decide (0 ≤ compareItems a b)) = l23Ahead a b := by
  unfold compareItems l23Ahead orInt orInt orInt orInt cmpInt cmpStr
  have := bytesLess_tri a.Key b.Key
  by_cases h1 : a.Time < b.Time
  · simp [h1, show a.Time ≠ b.Time by omega]
  · by_cases h2 : b.Time < a.Time
    · simp [h1, h2, show a.Time ≠ b.Time by omega]
    · have h3 : a.Time = b.Time := by omega
      by_cases h4 : a.Group < b.Group
      · simp [h3, h4, show a.Group ≠ b.Group by omega]
      · by_cases h5 : b.Group < a.Group
        · simp [h3, h4, h5, show a.Group ≠ b.Group by omega]
        · have h6 : a.Group = b.Group := by omega
          simp only [h3, h6, Int.lt_irrefl, ne_eq, not_true_eq_false, if_false, if_true]
          cases h7 : Op.bytesLess a.Key b.Key <;> cases h8 : Op.bytesLess b.Key a.Key <;> simp
end Go.M

set_option maxRecDepth 100000
namespace Go.Proofs.YtkegepoihkhihaaGreat
open Go Go.AV Go.M
attribute [local irreducible] OpW OpA OpS AWP FSpec ESpec RetOk RvDen Le Ev GuardIs
theorem W9 (a b c : Int) : FSpec Tryz.prog 82 [AV.int a, AV.int b, AV.int c] (AV.bool (within a b c)) := by
 refine D0 Tryz.func82 rfl Tryz.ntmps82 rfl ?_
 refine A3 (A2 ?_)
 refine A1 rfl (A7 rfl E2) ?_
 refine A4 (A3 (A2 ?_))
 refine A5 rfl ?_
 refine A5 rfl ?_
 refine A1 rfl (X3 rfl (A0 rfl) (A0 rfl)) ?_
 refine A5 rfl ?_
 refine D4 rfl (fun hc => C4 rfl (A0 rfl)) ?_
 refine D4 rfl (fun hc => C4 rfl (A0 rfl)) ?_
 refine D4 rfl (fun hc => S3 rfl (A9 rfl hc) (A9 rfl hc)) ?_
 refine A1 rfl (I1 rfl (A0 rfl) (F6 rfl)) ?_
 refine B1 rfl ?_
 refine A4 ?_
 refine B8 ?_
 exact E4 rfl (B7 rfl (by first | rfl | (refine congrArg AV.bool ?_; simp_all; done)))
theorem R9 (a b c : Int) : FSpec Tryz.prog 39 [AV.int a, AV.int b, AV.int c] (AV.bool (within a b c)) := by
 refine D0 Tryz.func39 rfl Tryz.ntmps39 rfl ?_
 refine A3 (A2 ?_)
 refine A1 rfl (A7 rfl E2) ?_
 refine A4 (A3 (A2 ?_))
 refine A5 rfl ?_
 refine A5 rfl ?_
 refine A1 rfl (X3 rfl (A0 rfl) (A0 rfl)) ?_
 refine A5 rfl ?_
 refine D4 rfl (fun hc => C4 rfl (A0 rfl)) ?_
 refine D4 rfl (fun hc => C4 rfl (A0 rfl)) ?_
 refine D4 rfl (fun hc => S3 rfl (A9 rfl hc) (A9 rfl hc)) ?_
 refine A1 rfl (I1 rfl (A0 rfl) (F6 rfl)) ?_
 refine B1 rfl ?_
 refine A4 ?_
 refine B8 ?_
 exact E4 rfl (B7 rfl (by first | rfl | (refine congrArg AV.bool ?_; simp_all; done)))
theorem Ai6 (c : UInt8) : FSpec Tryz.prog 208 [AV.byte c] (AV.bool (lowDig c)) := by
 refine D0 Tryz.func208 rfl Tryz.ntmps208 rfl ?_
 refine A3 (A2 ?_)
 refine A1 rfl (A7 rfl E2) ?_
 refine A4 (A3 (A2 ?_))
 refine A5 rfl ?_
 refine A1 rfl (X3 rfl (A0 rfl) B4) ?_
 refine A5 rfl ?_
 refine D4 rfl (fun hc => C4 rfl (A0 rfl)) ?_
 refine D4 rfl (fun hc => S3 rfl (A9 rfl hc) B4) ?_
 refine A1 rfl (I1 rfl (A0 rfl) (F6 rfl)) ?_
 refine A5 rfl ?_
 refine I3 rfl (fun hc => C4 rfl (A0 rfl)) ?_
 refine I3 rfl (fun hc => X3 rfl (A9 rfl hc) B4) ?_
 refine I3 rfl (fun hc => C4 rfl (A9 rfl hc)) ?_
 refine H9 rfl rfl (D9 rfl rfl rfl) (fun hc => C4 rfl (A0 rfl)) ?_
 refine H9 rfl rfl (D9 rfl rfl rfl) (fun hc => S3 rfl (A9 rfl hc) B4) ?_
 refine I3 rfl (fun hc => I1 rfl (A9 rfl hc) (O2 rfl hc)) ?_
 refine A1 rfl (P4 rfl (A0 rfl) (F6 rfl)) ?_
 refine B1 rfl ?_
 refine A4 ?_
 refine B8 ?_
 exact E4 rfl (B7 rfl (by first | rfl | (refine congrArg AV.bool ?_; simp_all; done)))
theorem idxB_ext (s : Str) (c : UInt8) : ESpec Tryz.prog 241 [AV.str s, AV.byte c] (AV.int (idxB s c)) := espec_mk fun R w vs h => by
  obtain ⟨v, u, rfl, h1, h2⟩ := denV_two h
  have e1 : v = .string ⟨s.toArray⟩ := h1
  have e2 : u = .int .u8 c.toNat := h2
  subst e1; subst e2
  refine ⟨.int .i64 (idxB s c), ?_, rfl⟩
  rw [run_callFunc_indexByte Tryz.func241 (by kernel_rfl) (by kernel_rfl) (by kernel_rfl) (by kernel_rfl), run_indexByte_string]
  simp [idxB]
theorem Ap6 (s : Str) (c : UInt8) : FSpec Tryz.prog 226 [AV.str s, AV.byte c] (AV.int (idxB s c)) := by
 refine D0 Tryz.func226 rfl Tryz.ntmps226 rfl ?_
 refine A3 (A2 ?_)
 refine A1 rfl (A7 rfl B4) ?_
 refine A4 (A3 (A2 ?_))
 refine A5 rfl ?_
 refine A5 rfl ?_
 refine A1 rfl (w_ext rfl rfl (idxB_ext _ _) (A8 (A0 rfl) (A8 (A0 rfl) C8))) ?_
 refine B1 rfl ?_
 refine A4 ?_
 refine B8 ?_
 exact E4 rfl (B7 rfl (by first | rfl | (refine congrArg AV.bool ?_; simp_all; done)))
theorem Au1 (s : Str) (c : UInt8) : FSpec Tryz.prog 209 [AV.str s, AV.byte c] (AV.int (idxB s c)) := by
 refine D0 Tryz.func209 rfl Tryz.ntmps209 rfl ?_
 refine A3 (A2 ?_)
 refine A1 rfl (A7 rfl B4) ?_
 refine A4 (A3 (A2 ?_))
 refine A5 rfl ?_
 refine A5 rfl ?_
 refine A1 rfl (D8 rfl Tryz.call226 rfl (Ap6 _ _) (A8 (A0 rfl) (A8 (A0 rfl) C8))) ?_
 refine B1 rfl ?_
 refine A4 ?_
 refine B8 ?_
 exact E4 rfl (B7 rfl (by first | rfl | (refine congrArg AV.bool ?_; simp_all; done)))
theorem AV1 (s o : Str) (hs : s.length ≤ 4611686018427387904) : FSpec Tryz.prog 166 [AV.str s, AV.str o] (AV.bool (hasB s o)) := by
 refine D0 Tryz.func166 rfl Tryz.ntmps166 rfl ?_
 refine A3 (A2 ?_)
 refine A1 rfl (A7 rfl E2) ?_
 refine A4 (A3 (A3 (A2 ?_)))
 refine A5 rfl ?_
 refine A1 rfl (a8 rfl J0 (A0 rfl)) ?_
 refine A1 rfl (C4 rfl B4) ?_
 refine A4 (C3 ?_)
 refine G4 [(0, _), (1, _), (7, _)] _ (fun (i : Nat) => i ≤ s.length ∧ hasB s o = hasB (s.drop i) o) (fun (i : Nat) => []) (fun (i : Nat) => [(8, AV.int i)]) (fun (i : Nat) => s.length - i) (0) ?_ (G6 ⟨rfl, rfl, rfl, rfl, trivial⟩) ?_
 ·exact ⟨Nat.zero_le _, rfl⟩
 intro i hinv
 refine A3 (A2 ?_)
 refine A1 rfl (F7 rfl (A0 rfl) (A0 rfl)) ?_
 refine A4 (A3 ?_)
 refine C0 (A0 rfl) ?_ ?_
 ·intro h9
  have k9 := of_decide_eq_true h9; try simp only [A6] at k9
  have hlt : i < s.length := by have := of_decide_eq_true h9; omega
  obtain ⟨c, hc⟩ := get_some hlt
  refine C1 (A3 (C3 (A3 (A2 ?_))))
  refine A5 rfl ?_
  refine B1 rfl ?_
  refine A4 (A3 (A2 ?_))
  refine A5 rfl ?_
  refine A5 rfl ?_
  refine A1 rfl (o8 rfl J0 (A0 rfl) (A0 rfl) (by first | omega | (simp only [D3, B0, szR] at *; omega)) (by assumption)) ?_
  refine A1 rfl (D8 rfl Tryz.call208 rfl (Ai6 _) (A8 (A0 rfl) C8)) ?_
  refine A1 rfl (J3 rfl (A0 rfl)) ?_
  refine A5 rfl ?_
  refine D4 rfl (fun hc => C4 rfl (A0 rfl)) ?_
  refine D4 rfl (fun hc => C4 rfl (A0 rfl)) ?_
  refine D4 rfl (fun hc => C4 rfl (A0 rfl)) ?_
  refine D4 rfl (fun hc => o8 rfl J0 (A9 rfl hc) (A9 rfl hc) (by first | omega | ((try simp only [D3, B0, szR] at *); omega) | (have hc2 := hc; simp only [P3, beq_iff_eq, bne_iff_ne, A6, F8] at hc2; omega)) (by assumption)) ?_
  refine D4 rfl (fun hc => D8 rfl Tryz.call209 rfl (Au1 _ _) (A8 (A9 rfl hc) (A8 (A9 rfl hc) C8))) ?_
  refine D4 rfl (fun hc => F7 rfl (A9 rfl hc) B4) ?_
  refine A1 rfl (I1 rfl (A0 rfl) (F6 rfl)) ?_
  refine A4 ?_
  refine C0 (A0 rfl) ?_ ?_
  ·intro h23
   have hfin : hasB s o = false := by rw [hinv.2, drop_some hc, AU9, h23]; rfl
   refine A3 (A2 ?_)
   refine A1 rfl (A7 rfl E2) ?_
   refine A4 ?_
   refine B8 ?_
   exact E4 rfl (B7 rfl (by first | exact congrArg AV.bool hfin.symm | exact congrArg AV.bool (by rw [hinv.2, List.drop_eq_nil_of_le hge]; rfl)))
  intro h23
  refine C1 (A2 ?_)
  refine A1 rfl (E9 rfl (A0 rfl) B4 (by first | omega | (simp only [D3, B0, szR] at *; omega))) ?_
  refine A5 rfl ?_
  refine A4 ?_
  refine H6 i (i + 1) ?_ ?_ (G6 ⟨rfl, rfl, rfl, rfl, trivial⟩)
  ·exact ⟨by omega, by rw [hinv.2, drop_some hc, AU9, h23]; rfl⟩
  omega
 intro h9
 have k9 := of_decide_eq_false h9; try simp only [A6] at k9
 have hge : s.length ≤ i := by have := of_decide_eq_false h9; omega
 refine F1 ?_
 refine A3 (A2 ?_)
 refine A1 rfl (A7 rfl E2) ?_
 refine A4 ?_
 refine B8 ?_
 exact E4 rfl (B7 rfl (by first | exact congrArg AV.bool hfin.symm | exact congrArg AV.bool (by rw [hinv.2, List.drop_eq_nil_of_le hge]; rfl)))
theorem AF7 (s o : Str) (hs : s.length ≤ 4611686018427387904) (ho : o.length ≤ 4611686018427387904) : FSpec Tryz.prog 223 [AV.str s, AV.str o] (AV.bool (l3Bytes s o)) := by
 refine D0 Tryz.func223 rfl Tryz.ntmps223 rfl ?_
 refine A3 (A2 ?_)
 refine A1 rfl (A7 rfl E2) ?_
 refine A4 (A3 (A3 (A2 ?_)))
 refine A1 rfl (A7 rfl B4) ?_
 refine A4 (C3 ?_)
 refine G4 [(0, _), (1, _)] _ (fun (i : Nat) => i ≤ s.length ∧ l3Bytes s o = l3Bytes (s.drop i) o) (fun (i : Nat) => []) (fun (i : Nat) => [(5, AV.int i)]) (fun (i : Nat) => s.length - i) (0) ?_ (G6 ⟨rfl, rfl, rfl, trivial⟩) ?_
 ·exact ⟨Nat.zero_le _, rfl⟩
 intro i hinv
 have hinv0 := hinv; clear hinv
 refine A3 (A3 (A2 ?_))
 refine A5 rfl ?_
 refine A5 rfl ?_
 refine A1 rfl (a8 rfl J0 (A0 rfl)) ?_
 refine A1 rfl (F7 rfl (A0 rfl) (A0 rfl)) ?_
 refine A4 ?_
 refine C0 (A0 rfl) ?_ ?_
 ·intro h11
  have k11 := of_decide_eq_true h11; try simp only [A6] at k11
  have hlt : i < s.length := by have := of_decide_eq_true h11; omega
  obtain ⟨c, hc⟩ := get_some hlt
  refine C1 (A3 (C3 (A3 (A2 ?_))))
  refine A5 rfl ?_
  refine A5 rfl ?_
  refine A1 rfl (o8 rfl J0 (A0 rfl) (A0 rfl) (by first | omega | (simp only [D3, B0, szR] at *; omega)) (by assumption)) ?_
  refine A1 rfl (X3 rfl (A0 rfl) B4) ?_
  refine A5 rfl ?_
  refine D4 rfl (fun hc => C4 rfl (A0 rfl)) ?_
  refine D4 rfl (fun hc => C4 rfl (A0 rfl)) ?_
  refine D4 rfl (fun hc => o8 rfl J0 (A9 rfl hc) (A9 rfl hc) (by first | omega | ((try simp only [D3, B0, szR] at *); omega) | (have hc2 := hc; simp only [P3, beq_iff_eq, bne_iff_ne, A6, F8] at hc2; omega)) (by assumption)) ?_
  refine D4 rfl (fun hc => S3 rfl (A9 rfl hc) B4) ?_
  refine A1 rfl (I1 rfl (A0 rfl) (F6 rfl)) ?_
  refine A5 rfl ?_
  refine I3 rfl (fun hc => C4 rfl (A0 rfl)) ?_
  refine I3 rfl (fun hc => C4 rfl (A0 rfl)) ?_
  refine I3 rfl (fun hc => o8 rfl J0 (A9 rfl hc) (A9 rfl hc) (by first | omega | ((try simp only [D3, B0, szR] at *); omega) | (have hc2 := hc; simp only [P3, beq_iff_eq, bne_iff_ne, A6, F8] at hc2; omega)) (by assumption)) ?_
  refine I3 rfl (fun hc => X3 rfl (A9 rfl hc) B4) ?_
  refine I3 rfl (fun hc => C4 rfl (A9 rfl hc)) ?_
  refine H9 rfl rfl (D9 rfl rfl rfl) (fun hc => C4 rfl (A0 rfl)) ?_
  refine H9 rfl rfl (D9 rfl rfl rfl) (fun hc => C4 rfl (A0 rfl)) ?_
  refine H9 rfl rfl (D9 rfl rfl rfl) (fun hc => o8 rfl J0 (A9 rfl hc) (A9 rfl hc) (by first | omega | ((try simp only [D3, B0, szR] at *); omega) | (have hc2 := hc; simp only [P3, beq_iff_eq, bne_iff_ne, A6, F8] at hc2; omega)) (by assumption)) ?_
  refine H9 rfl rfl (D9 rfl rfl rfl) (fun hc => S3 rfl (A9 rfl hc) B4) ?_
  refine I3 rfl (fun hc => I1 rfl (A9 rfl hc) (O2 rfl hc)) ?_
  refine A1 rfl (P4 rfl (A0 rfl) (F6 rfl)) ?_
  refine B1 rfl ?_
  refine A4 (A3 (A3 (A2 ?_)))
  refine A1 rfl (A7 rfl B4) ?_
  refine A4 (C3 ?_)
  refine J7 [(0, _), (1, _), (5, _), (8, _), (9, _), (10, _), (11, _), (14, _), (15, _), (16, _), (17, _), (18, _), (23, _), (24, _), (35, _)] _ (fun (k : Nat) (b : Bool) => k ≤ o.length ∧ (lowDig c || o.any fun d => ((c.toNat : Int) == (d.toNat : Int))) = (b || (o.drop k).any fun d => ((c.toNat : Int) == (d.toNat : Int)))) (fun (k : Nat) (b : Bool) => []) (fun (k : Nat) (b : Bool) => [(6, AV.bool b), (7, AV.int k)]) (fun (k : Nat) (b : Bool) => o.length - k) (0) (lowDig c) ?_ (G6 ⟨rfl, rfl, rfl, rfl, rfl, rfl, rfl, rfl, rfl, rfl, rfl, rfl, rfl, rfl, rfl, rfl, rfl, trivial⟩) ?_
  ·exact ⟨Nat.zero_le _, rfl⟩
  intro k b hinv
  refine A3 (A3 (A2 ?_))
  refine A5 rfl ?_
  refine A5 rfl ?_
  refine A1 rfl (a8 rfl J0 (A0 rfl)) ?_
  refine A1 rfl (F7 rfl (A0 rfl) (A0 rfl)) ?_
  refine A4 ?_
  refine C0 (A0 rfl) ?_ ?_
  ·intro h39
   have k39 := of_decide_eq_true h39; try simp only [A6] at k39
   have hlt2 : k < o.length := by have := of_decide_eq_true h39; omega
   obtain ⟨d, hd⟩ := get_some hlt2
   refine C1 (A3 (C3 ?_))
   refine H7 (by kernel_rfl) (by kernel_rfl) rfl ?_
   refine B3 rfl rfl (C4 rfl (A0 rfl)) ?_
   refine B3 rfl rfl (C4 rfl (A0 rfl)) ?_
   refine D7 rfl (G8 rfl rfl rfl) (fun hc => C4 rfl (A0 rfl)) ?_
   refine D7 rfl (G8 rfl rfl rfl) (fun hc => C4 rfl (A0 rfl)) ?_
   refine D7 rfl (G8 rfl rfl rfl) (fun hc => o8 rfl J0 (A9 rfl hc) (A9 rfl hc) (by first | omega | ((try simp only [D3, B0, szR] at *); omega) | (have hc2 := hc; simp only [P3, beq_iff_eq, bne_iff_ne, A6, F8] at hc2; omega)) (by assumption)) ?_
   refine D7 rfl (G8 rfl rfl rfl) (fun hc => C4 rfl (A0 rfl)) ?_
   refine D7 rfl (G8 rfl rfl rfl) (fun hc => C4 rfl (A0 rfl)) ?_
   refine D7 rfl (G8 rfl rfl rfl) (fun hc => o8 rfl J0 (A9 rfl hc) (A9 rfl hc) (by first | omega | ((try simp only [D3, B0, szR] at *); omega) | (have hc2 := hc; simp only [P3, beq_iff_eq, bne_iff_ne, A6, F8] at hc2; omega)) (by assumption)) ?_
   refine D7 rfl (G8 rfl rfl rfl) (fun hc => R4 rfl (A9 rfl hc) (A9 rfl hc)) ?_
   refine B3 rfl rfl (P4 rfl (A0 rfl) (F6 rfl)) ?_
   refine B3 rfl rfl (A7 rfl (A0 rfl)) ?_
   refine O4 ?_
   refine A2 ?_
   refine A5 rfl ?_
   refine A1 rfl (E9 rfl (A0 rfl) B4 (by first | omega | (simp only [D3, B0, szR] at *; omega))) ?_
   refine B1 rfl ?_
   refine A4 ?_
   refine J5 k b (k + 1) ((b || ((c.toNat : Int) == (d.toNat : Int)))) ?_ ?_ (G6 ⟨rfl, rfl, rfl, rfl, rfl, rfl, rfl, rfl, rfl, rfl, rfl, rfl, rfl, rfl, rfl, rfl, rfl, trivial⟩)
   ·exact ⟨by omega, by rw [hinv.2, drop_some hd, List.any_cons, Bool.or_assoc]⟩
   omega
  intro h39
  have k39 := of_decide_eq_false h39; try simp only [A6] at k39
  have hge2 : o.length ≤ k := by have := of_decide_eq_false h39; omega
  have hg : (lowDig c || o.any fun d => ((c.toNat : Int) == (d.toNat : Int))) = b := by rw [hinv.2, List.drop_eq_nil_of_le hge2]; simp
  refine F1 ?_
  refine A3 (A2 ?_)
  refine A5 rfl ?_
  refine A1 rfl (J3 rfl (A0 rfl)) ?_
  refine A4 ?_
  refine C0 (A0 rfl) ?_ ?_
  ·intro h53
   have hfin : l3Bytes s o = false := by rw [hinv0.2, drop_some hc, AF6, hg]; cases b <;> simp_all
   refine A3 (A2 ?_)
   refine A1 rfl (A7 rfl E2) ?_
   refine A4 ?_
   refine B8 ?_
   exact E4 rfl (B7 rfl (by first | exact congrArg AV.bool hfin.symm | exact congrArg AV.bool (by rw [hinv0.2, List.drop_eq_nil_of_le hge]; rfl)))
  intro h53
  have hb : b = true := by cases b <;> simp_all
  refine C1 (A2 ?_)
  refine A5 rfl ?_
  refine A1 rfl (E9 rfl (A0 rfl) B4 (by first | omega | (simp only [D3, B0, szR] at *; omega))) ?_
  refine B1 rfl ?_
  refine A4 ?_
  refine H6 i (i + 1) ?_ ?_ (G6 ⟨rfl, rfl, rfl, trivial⟩)
  ·exact ⟨by omega, by rw [hinv0.2, drop_some hc, AF6, hg, hb]; rfl⟩
  omega
 intro h11
 have k11 := of_decide_eq_false h11; try simp only [A6] at k11
 have hge : s.length ≤ i := by have := of_decide_eq_false h11; omega
 refine F1 ?_
 refine A3 (A2 ?_)
 refine A1 rfl (A7 rfl E2) ?_
 refine A4 ?_
 refine B8 ?_
 exact E4 rfl (B7 rfl (by first | exact congrArg AV.bool hfin.symm | exact congrArg AV.bool (by rw [hinv0.2, List.drop_eq_nil_of_le hge]; rfl)))
theorem Ac0 (s : Str) (hs : s.length ≤ 4611686018427387904) : FSpec Tryz.prog 112 [AV.str s] (AV.bool (goodKey s)) := by
 refine D0 Tryz.func112 rfl Tryz.ntmps112 rfl ?_
 refine A3 (A2 ?_)
 refine A1 rfl (A7 rfl E2) ?_
 refine A4 (A3 (A2 ?_))
 refine A5 rfl ?_
 refine A1 rfl (a8 rfl J0 (A0 rfl)) ?_
 refine A1 rfl (D8 rfl Tryz.call82 rfl (W9 _ _ _) (A8 (A0 rfl) (A8 B4 (A8 B4 C8)))) ?_
 refine A5 rfl ?_
 refine D4 rfl (fun hc => C4 rfl (A0 rfl)) ?_
 refine D4 rfl (fun hc => D8 rfl Tryz.call166 rfl (AV1 _ _ (by omega)) (A8 (A9 rfl hc) (A8 (i4 (l := [46, 47]) rfl) C8))) ?_
 refine A1 rfl (I1 rfl (A0 rfl) (F6 rfl)) ?_
 refine B1 rfl ?_
 refine A4 ?_
 refine B8 ?_
 exact E4 rfl (B7 rfl (by first | rfl | (refine congrArg AV.bool ?_; simp_all; done)))
theorem Ac1 (s : Str) (hs : s.length ≤ 4611686018427387904) : FSpec Tryz.prog 167 [AV.str s] (AV.bool (goodVal s)) := by
 refine D0 Tryz.func167 rfl Tryz.ntmps167 rfl ?_
 refine A3 (A2 ?_)
 refine A1 rfl (A7 rfl E2) ?_
 refine A4 (A3 (A2 ?_))
 refine A5 rfl ?_
 refine A1 rfl (a8 rfl J0 (A0 rfl)) ?_
 refine A1 rfl (S3 rfl (A0 rfl) B4) ?_
 refine A5 rfl ?_
 refine D4 rfl (fun hc => C4 rfl (A0 rfl)) ?_
 refine D4 rfl (fun hc => D8 rfl Tryz.call166 rfl (AV1 _ _ (by omega)) (A8 (A9 rfl hc) (A8 (i4 (l := [46, 45, 44, 95]) rfl) C8))) ?_
 refine A1 rfl (I1 rfl (A0 rfl) (F6 rfl)) ?_
 refine B1 rfl ?_
 refine A4 ?_
 refine B8 ?_
 exact E4 rfl (B7 rfl (by first | rfl | (refine congrArg AV.bool ?_; simp_all; done)))
theorem AC2 (s : Str) (hs : s.length ≤ 4611686018427387904) : FSpec Tryz.prog 198 [AV.str s] (AV.bool (l3Key s)) := by
 refine D0 Tryz.func198 rfl Tryz.ntmps198 rfl ?_
 refine A3 (A2 ?_)
 refine A1 rfl (A7 rfl E2) ?_
 refine A4 (A3 (A2 ?_))
 refine A5 rfl ?_
 refine A1 rfl (a8 rfl J0 (A0 rfl)) ?_
 refine A1 rfl (D8 rfl Tryz.call39 rfl (R9 _ _ _) (A8 (A0 rfl) (A8 B4 (A8 B4 C8)))) ?_
 refine A5 rfl ?_
 refine D4 rfl (fun hc => C4 rfl (A0 rfl)) ?_
 refine D4 rfl (fun hc => D8 rfl Tryz.call223 rfl (AF7 _ _ (by omega) (by decide)) (A8 (A9 rfl hc) (A8 (i4 (l := [46, 47]) rfl) C8))) ?_
 refine A1 rfl (I1 rfl (A0 rfl) (F6 rfl)) ?_
 refine B1 rfl ?_
 refine A4 ?_
 refine B8 ?_
 exact E4 rfl (B7 rfl (by first | rfl | (refine congrArg AV.bool ?_; simp_all; done)))
end Go.Proofs.YtkegepoihkhihaaGreat

namespace Go.Proofs.YtkegepoihkhihaaGreat
open Go Go.AV Go.M
attribute [local irreducible] OpW OpA OpS AWP FSpec ESpec RetOk RvDen Le Ev GuardIs
theorem AE6 (l : List TWrite) (pre : TWrite → Prop) (f : TWrite → Bool) (hp : ∀ x ∈ l, pre x) : FSpec Tryz.prog 188 [AV.list 3 (l.map TWrite.cs), AV.fun1 Tryz.prog pre (fun a => AV.agg a.cs) (fun a => AV.bool (f a))] (AV.int (idxFrom f l 0)) := by
 refine D0 Tryz.func188 rfl Tryz.ntmps188 rfl ?_
 refine M6 (t := 0) rfl fun hl => ?_
 try simp only [A6] at hl
 refine A3 (A2 ?_)
 refine A1 rfl (A7 rfl B4) ?_
 refine A4 (A3 (A3 (A2 ?_)))
 refine A5 rfl ?_
 refine A1 rfl (E7 rfl F0 (A0 rfl)) ?_
 refine A1 rfl (C4 rfl B4) ?_
 refine A4 (C3 ?_)
 refine G4 [(0, _), (1, _), (7, _)] _ (fun (i : Nat) => i ≤ l.length ∧ idxFrom f l 0 = idxFrom f (l.drop i) i) (fun (i : Nat) => []) (fun (i : Nat) => [(8, AV.int i)]) (fun (i : Nat) => l.length - i) (0) ?_ (G6 ⟨rfl, rfl, rfl, rfl, trivial⟩) ?_
 ·exact ⟨Nat.zero_le _, rfl⟩
 intro i hinv
 refine A3 (A2 ?_)
 refine A1 rfl (F7 rfl (A0 rfl) (A0 rfl)) ?_
 refine A4 (A3 ?_)
 refine C0 (A0 rfl) ?_ ?_
 ·intro h9
  have k9 := of_decide_eq_true h9; try simp only [A6] at k9
  have hlt : i < l.length := by omega
  obtain ⟨x, hx⟩ := get_some hlt
  refine C1 (A3 (C3 (A3 (A2 ?_))))
  refine A5 rfl ?_
  refine B1 rfl ?_
  refine A4 (A3 (A2 ?_))
  refine A5 rfl ?_
  refine A5 rfl ?_
  refine A5 rfl ?_
  refine A1 rfl (I8 rfl F0 G5 (A0 rfl) (A0 rfl) hx (by first | omega | (simp only [D3, B0, szR] at *; omega))) ?_
  refine A1 rfl (H0 rfl (A0 rfl) Q4 G5) ?_
  refine A1 rfl (AL0 rfl (A0 rfl) x (hp x (H5 hx)) (A0 rfl)) ?_
  refine A4 ?_
  refine C0 (A0 rfl) ?_ ?_
  ·intro h16
   refine A3 (A2 ?_)
   refine A5 rfl ?_
   refine B1 rfl ?_
   refine A4 ?_
   refine B8 ?_
   exact E4 rfl (B7 rfl (by first | exact congrArg AV.int (by rw [hinv.2, drop_some hx, idxFrom, h16]; rfl) | exact congrArg AV.int (by rw [hinv.2, List.drop_eq_nil_of_le hge]; rfl)))
  intro h16
  refine C1 (A2 ?_)
  refine A1 rfl (E9 rfl (A0 rfl) B4 (by first | omega | (simp only [D3, B0, szR] at *; omega))) ?_
  refine A5 rfl ?_
  refine A4 ?_
  refine H6 i (i + 1) ?_ ?_ (G6 ⟨rfl, rfl, rfl, rfl, trivial⟩)
  ·exact ⟨by omega, by rw [hinv.2, drop_some hx, idxFrom, h16]; simp⟩
  omega
 intro h9
 have k9 := of_decide_eq_false h9; try simp only [A6] at k9
 have hge : l.length ≤ i := by omega
 refine F1 ?_
 refine A3 (A2 ?_)
 refine A1 rfl (A7 rfl B4) ?_
 refine A4 ?_
 refine B8 ?_
 exact E4 rfl (B7 rfl (by first | exact congrArg AV.int (by rw [hinv.2, drop_some hx, idxFrom, h16]; rfl) | exact congrArg AV.int (by rw [hinv.2, List.drop_eq_nil_of_le hge]; rfl)))
theorem Y4 (l : List TWrite) (pre : TWrite → Prop) (f : TWrite → Bool) (hp : ∀ x ∈ l, pre x) : FSpec Tryz.prog 141 [AV.list 3 (l.map TWrite.cs), AV.fun1 Tryz.prog pre (fun a => AV.agg a.cs) (fun a => AV.bool (f a))] (AV.bool (l.any f)) := by
 refine D0 Tryz.func141 rfl Tryz.ntmps141 rfl ?_
 refine A3 (A2 ?_)
 refine A1 rfl (A7 rfl E2) ?_
 refine A4 (A3 (A2 ?_))
 refine A5 rfl ?_
 refine A5 rfl ?_
 refine A1 rfl (D8 rfl Tryz.call188 rfl (AE6 _ _ _ (by first | (intros; trivial) | assumption | (intros; first | trivial | (simp_all; done)))) (A8 (A0 rfl) (A8 (A0 rfl) C8))) ?_
 refine A1 rfl (X3 rfl (A0 rfl) B4) ?_
 refine B1 rfl ?_
 refine A4 ?_
 refine B8 ?_
 exact E4 rfl (B7 rfl (by exact congrArg AV.bool (i6 f l 0 (Int.le_refl 0))))
theorem AF8 (l : List THeld) (pre : THeld → Prop) (f : THeld → Bool) (hp : ∀ x ∈ l, pre x) : FSpec Tryz.prog 186 [AV.list 5 (l.map THeld.cs), AV.fun1 Tryz.prog pre (fun a => AV.agg a.cs) (fun a => AV.bool (f a))] (AV.int (idxFrom f l 0)) := by
 refine D0 Tryz.func186 rfl Tryz.ntmps186 rfl ?_
 refine M6 (t := 0) rfl fun hl => ?_
 try simp only [A6] at hl
 refine A3 (A2 ?_)
 refine A1 rfl (A7 rfl B4) ?_
 refine A4 (A3 (A3 (A2 ?_)))
 refine A5 rfl ?_
 refine A1 rfl (E7 rfl F5 (A0 rfl)) ?_
 refine A1 rfl (C4 rfl B4) ?_
 refine A4 (C3 ?_)
 refine G4 [(0, _), (1, _), (7, _)] _ (fun (i : Nat) => i ≤ l.length ∧ idxFrom f l 0 = idxFrom f (l.drop i) i) (fun (i : Nat) => []) (fun (i : Nat) => [(8, AV.int i)]) (fun (i : Nat) => l.length - i) (0) ?_ (G6 ⟨rfl, rfl, rfl, rfl, trivial⟩) ?_
 ·exact ⟨Nat.zero_le _, rfl⟩
 intro i hinv
 refine A3 (A2 ?_)
 refine A1 rfl (F7 rfl (A0 rfl) (A0 rfl)) ?_
 refine A4 (A3 ?_)
 refine C0 (A0 rfl) ?_ ?_
 ·intro h9
  have k9 := of_decide_eq_true h9; try simp only [A6] at k9
  have hlt : i < l.length := by omega
  obtain ⟨x, hx⟩ := get_some hlt
  refine C1 (A3 (C3 (A3 (A2 ?_))))
  refine A5 rfl ?_
  refine B1 rfl ?_
  refine A4 (A3 (A2 ?_))
  refine A5 rfl ?_
  refine A5 rfl ?_
  refine A5 rfl ?_
  refine A1 rfl (I8 rfl F5 E8 (A0 rfl) (A0 rfl) hx (by first | omega | (simp only [D3, B0, szR] at *; omega))) ?_
  refine A1 rfl (H0 rfl (A0 rfl) K5 E8) ?_
  refine A1 rfl (AL0 rfl (A0 rfl) x (hp x (H5 hx)) (A0 rfl)) ?_
  refine A4 ?_
  refine C0 (A0 rfl) ?_ ?_
  ·intro h16
   refine A3 (A2 ?_)
   refine A5 rfl ?_
   refine B1 rfl ?_
   refine A4 ?_
   refine B8 ?_
   exact E4 rfl (B7 rfl (by first | exact congrArg AV.int (by rw [hinv.2, drop_some hx, idxFrom, h16]; rfl) | exact congrArg AV.int (by rw [hinv.2, List.drop_eq_nil_of_le hge]; rfl)))
  intro h16
  refine C1 (A2 ?_)
  refine A1 rfl (E9 rfl (A0 rfl) B4 (by first | omega | (simp only [D3, B0, szR] at *; omega))) ?_
  refine A5 rfl ?_
  refine A4 ?_
  refine H6 i (i + 1) ?_ ?_ (G6 ⟨rfl, rfl, rfl, rfl, trivial⟩)
  ·exact ⟨by omega, by rw [hinv.2, drop_some hx, idxFrom, h16]; simp⟩
  omega
 intro h9
 have k9 := of_decide_eq_false h9; try simp only [A6] at k9
 have hge : l.length ≤ i := by omega
 refine F1 ?_
 refine A3 (A2 ?_)
 refine A1 rfl (A7 rfl B4) ?_
 refine A4 ?_
 refine B8 ?_
 exact E4 rfl (B7 rfl (by first | exact congrArg AV.int (by rw [hinv.2, drop_some hx, idxFrom, h16]; rfl) | exact congrArg AV.int (by rw [hinv.2, List.drop_eq_nil_of_le hge]; rfl)))
theorem AA8 (l : List THeld) (pre : THeld → Prop) (f : THeld → Bool) (hp : ∀ x ∈ l, pre x) : FSpec Tryz.prog 138 [AV.list 5 (l.map THeld.cs), AV.fun1 Tryz.prog pre (fun a => AV.agg a.cs) (fun a => AV.bool (f a))] (AV.bool (l.any f)) := by
 refine D0 Tryz.func138 rfl Tryz.ntmps138 rfl ?_
 refine A3 (A2 ?_)
 refine A1 rfl (A7 rfl E2) ?_
 refine A4 (A3 (A2 ?_))
 refine A5 rfl ?_
 refine A5 rfl ?_
 refine A1 rfl (D8 rfl Tryz.call186 rfl (AF8 _ _ _ (by first | (intros; trivial) | assumption | (intros; first | trivial | (simp_all; done)))) (A8 (A0 rfl) (A8 (A0 rfl) C8))) ?_
 refine A1 rfl (X3 rfl (A0 rfl) B4) ?_
 refine B1 rfl ?_
 refine A4 ?_
 refine B8 ?_
 exact E4 rfl (B7 rfl (by exact congrArg AV.bool (i6 f l 0 (Int.le_refl 0))))
theorem AE7 (l : List TState) (pre : TState → Prop) (f : TState → Bool) (hp : ∀ x ∈ l, pre x) : FSpec Tryz.prog 129 [AV.list 4 (l.map TState.cs), AV.fun1 Tryz.prog pre (fun a => AV.agg a.cs) (fun a => AV.bool (f a))] (AV.int (idxFrom f l 0)) := by
 refine D0 Tryz.func129 rfl Tryz.ntmps129 rfl ?_
 refine M6 (t := 0) rfl fun hl => ?_
 try simp only [A6] at hl
 refine A3 (A2 ?_)
 refine A1 rfl (A7 rfl B4) ?_
 refine A4 (A3 (A3 (A2 ?_)))
 refine A5 rfl ?_
 refine A1 rfl (E7 rfl I4 (A0 rfl)) ?_
 refine A1 rfl (C4 rfl B4) ?_
 refine A4 (C3 ?_)
 refine G4 [(0, _), (1, _), (7, _)] _ (fun (i : Nat) => i ≤ l.length ∧ idxFrom f l 0 = idxFrom f (l.drop i) i) (fun (i : Nat) => []) (fun (i : Nat) => [(8, AV.int i)]) (fun (i : Nat) => l.length - i) (0) ?_ (G6 ⟨rfl, rfl, rfl, rfl, trivial⟩) ?_
 ·exact ⟨Nat.zero_le _, rfl⟩
 intro i hinv
 refine A3 (A2 ?_)
 refine A1 rfl (F7 rfl (A0 rfl) (A0 rfl)) ?_
 refine A4 (A3 ?_)
 refine C0 (A0 rfl) ?_ ?_
 ·intro h9
  have k9 := of_decide_eq_true h9; try simp only [A6] at k9
  have hlt : i < l.length := by omega
  obtain ⟨x, hx⟩ := get_some hlt
  refine C1 (A3 (C3 (A3 (A2 ?_))))
  refine A5 rfl ?_
  refine B1 rfl ?_
  refine A4 (A3 (A2 ?_))
  refine A5 rfl ?_
  refine A5 rfl ?_
  refine A5 rfl ?_
  refine A1 rfl (I8 rfl I4 I0 (A0 rfl) (A0 rfl) hx (by first | omega | (simp only [D3, B0, szR] at *; omega))) ?_
  refine A1 rfl (H0 rfl (A0 rfl) N3 I0) ?_
  refine A1 rfl (AL0 rfl (A0 rfl) x (hp x (H5 hx)) (A0 rfl)) ?_
  refine A4 ?_
  refine C0 (A0 rfl) ?_ ?_
  ·intro h16
   refine A3 (A2 ?_)
   refine A5 rfl ?_
   refine B1 rfl ?_
   refine A4 ?_
   refine B8 ?_
   exact E4 rfl (B7 rfl (by first | exact congrArg AV.int (by rw [hinv.2, drop_some hx, idxFrom, h16]; rfl) | exact congrArg AV.int (by rw [hinv.2, List.drop_eq_nil_of_le hge]; rfl)))
  intro h16
  refine C1 (A2 ?_)
  refine A1 rfl (E9 rfl (A0 rfl) B4 (by first | omega | (simp only [D3, B0, szR] at *; omega))) ?_
  refine A5 rfl ?_
  refine A4 ?_
  refine H6 i (i + 1) ?_ ?_ (G6 ⟨rfl, rfl, rfl, rfl, trivial⟩)
  ·exact ⟨by omega, by rw [hinv.2, drop_some hx, idxFrom, h16]; simp⟩
  omega
 intro h9
 have k9 := of_decide_eq_false h9; try simp only [A6] at k9
 have hge : l.length ≤ i := by omega
 refine F1 ?_
 refine A3 (A2 ?_)
 refine A1 rfl (A7 rfl B4) ?_
 refine A4 ?_
 refine B8 ?_
 exact E4 rfl (B7 rfl (by first | exact congrArg AV.int (by rw [hinv.2, drop_some hx, idxFrom, h16]; rfl) | exact congrArg AV.int (by rw [hinv.2, List.drop_eq_nil_of_le hge]; rfl)))
theorem z6 (l : List TState) (pre : TState → Prop) (f : TState → Bool) (hp : ∀ x ∈ l, pre x) : FSpec Tryz.prog 83 [AV.list 4 (l.map TState.cs), AV.fun1 Tryz.prog pre (fun a => AV.agg a.cs) (fun a => AV.bool (f a))] (AV.bool (l.any f)) := by
 refine D0 Tryz.func83 rfl Tryz.ntmps83 rfl ?_
 refine A3 (A2 ?_)
 refine A1 rfl (A7 rfl E2) ?_
 refine A4 (A3 (A2 ?_))
 refine A5 rfl ?_
 refine A5 rfl ?_
 refine A1 rfl (D8 rfl Tryz.call129 rfl (AE7 _ _ _ (by first | (intros; trivial) | assumption | (intros; first | trivial | (simp_all; done)))) (A8 (A0 rfl) (A8 (A0 rfl) C8))) ?_
 refine A1 rfl (X3 rfl (A0 rfl) B4) ?_
 refine B1 rfl ?_
 refine A4 ?_
 refine B8 ?_
 exact E4 rfl (B7 rfl (by exact congrArg AV.bool (i6 f l 0 (Int.le_refl 0))))
theorem z7 (l : List TWrite) (v : Str) (pre : TWrite → Str → Prop) (hp : ∀ x ∈ l, pre x v) (f : TWrite → Str → Int) (hl2 : l.length ≤ 4611686018427387903) : FSpec Tryz.prog 229 [AV.list 3 (l.map TWrite.cs), AV.str v, AV.fun2 Tryz.prog pre (fun a => AV.agg a.cs) (fun b => AV.str b) (fun a b => AV.int (f a b))] (AV.tup [AV.int (bs (fun x => f x v) l 0 l.length), AV.bool (bsAt (fun x => f x v) l (bs (fun x => f x v) l 0 l.length))]) := by
 refine D0 Tryz.func229 rfl Tryz.ntmps229 rfl ?_
 refine M6 (t := 0) rfl fun hl => ?_
 try simp only [A6] at hl
 refine A3 (A2 ?_)
 refine A1 rfl (A7 rfl B4) ?_
 refine A1 rfl (A7 rfl E2) ?_
 refine A4 (A3 (A2 ?_))
 refine A5 rfl ?_
 refine A1 rfl (E7 rfl F0 (A0 rfl)) ?_
 refine B1 rfl ?_
 refine A4 (A3 (A2 ?_))
 refine A5 rfl ?_
 refine A1 rfl (A7 rfl B4) ?_
 refine B1 rfl ?_
 refine A4 (A3 (C3 ?_))
 refine J7 [(0, _), (1, _), (2, _), (6, _), (7, _), (8, _)] _ (fun (i : Nat) (j : Nat) => i ≤ j ∧ j ≤ l.length ∧ bs (fun x => f x v) l 0 l.length = bs (fun x => f x v) l i j) (fun (i : Nat) (j : Nat) => []) (fun (i : Nat) (j : Nat) => [(9, AV.int i), (10, AV.int j)]) (fun (i : Nat) (j : Nat) => j - i) (0) ((l.map TWrite.cs).length) ?_ (G6 ⟨rfl, rfl, rfl, rfl, rfl, rfl, rfl, rfl, trivial⟩) ?_
 ·exact ⟨Nat.zero_le _, by simp, by simp⟩
 intro i j hinv
 refine A3 (A3 (A2 ?_))
 refine A5 rfl ?_
 refine A5 rfl ?_
 refine A1 rfl (F7 rfl (A0 rfl) (A0 rfl)) ?_
 refine A4 ?_
 refine C0 (A0 rfl) ?_ ?_
 ·intro h17
  have k17 := of_decide_eq_true h17; try simp only [A6] at k17
  have hlt : i < j := by omega
  obtain ⟨x, hx⟩ := get_some (show (i + j) / 2 < l.length by omega)
  refine C1 (C3 (A3 (A2 ?_)))
  refine A5 rfl ?_
  refine A5 rfl ?_
  refine A1 rfl (E9 rfl (A0 rfl) (A0 rfl) (by omega)) ?_
  refine A1 rfl (s9 rfl (by kernel_rfl) Tryz.underlying158 (A0 rfl)) ?_
  refine A1 rfl (w_shr rfl (A0 rfl) B4 (by decide) (by decide)) ?_
  refine A1 rfl (s9 rfl (by kernel_rfl) T6 (A0 rfl)) ?_
  refine B1 rfl ?_
  refine A4 (A3 (A2 ?_))
  rw [AR7 (by omega)]
  refine A5 rfl ?_
  refine A5 rfl ?_
  refine A5 rfl ?_
  refine A1 rfl (I8 rfl F0 G5 (A0 rfl) (A0 rfl) hx (by first | omega | (simp only [D3, B0, szR] at *; omega))) ?_
  refine A1 rfl (H0 rfl (A0 rfl) Q4 G5) ?_
  refine A5 rfl ?_
  refine A1 rfl (n2 rfl (A0 rfl) x v (hp x (H5 hx)) (A0 rfl) (A0 rfl)) ?_
  refine A1 rfl (F7 rfl (A0 rfl) B4) ?_
  refine A4 ?_
  refine C0 (A0 rfl) ?_ ?_
  ·intro h31
   have k31 := of_decide_eq_true h31; try simp only [A6] at k31
   refine A2 ?_
   refine A5 rfl ?_
   refine A1 rfl (E9 rfl (A0 rfl) B4 (by first | omega | (simp only [D3, B0, szR] at *; omega))) ?_
   refine B1 rfl ?_
   refine A4 ?_
   refine l5 ?_
   refine J5 i j ((i + j) / 2 + 1) (j) ?_ ?_ (G6 ⟨rfl, rfl, rfl, rfl, rfl, rfl, rfl, rfl, trivial⟩)
   ·exact ⟨by omega, by omega, by rw [hinv.2.2, Aa7 hlt hx k31]⟩
   omega
  intro h31
  have k31 := of_decide_eq_false h31; try simp only [A6] at k31
  refine A2 ?_
  refine A5 rfl ?_
  refine B1 rfl ?_
  refine A4 ?_
  refine l5 ?_
  refine J5 i j (i) ((i + j) / 2) ?_ ?_ (G6 ⟨rfl, rfl, rfl, rfl, rfl, rfl, rfl, rfl, trivial⟩)
  ·exact ⟨by omega, by omega, by rw [hinv.2.2, Aa8 hlt hx k31]⟩
  omega
 intro h17
 have k17 := of_decide_eq_false h17; try simp only [A6] at k17
 have hge : bs (fun x => f x v) l 0 l.length = i := by rw [hinv.2.2, AO0 (by omega)]
 obtain ⟨y, hy⟩ := AA7 l i
 refine F1 ?_
 refine A3 (A2 ?_)
 refine A5 rfl ?_
 refine A5 rfl ?_
 refine A5 rfl ?_
 refine A1 rfl (F7 rfl (A0 rfl) (A0 rfl)) ?_
 refine A5 rfl ?_
 refine D4 rfl (fun hc => C4 rfl (A0 rfl)) ?_
 refine D4 rfl (fun hc => C4 rfl (A0 rfl)) ?_
 refine D4 rfl (fun hc => C4 rfl (A0 rfl)) ?_
 refine D4 rfl (fun hc => I8 rfl F0 G5 (A9 rfl hc) (A9 rfl hc) (hy (by first | omega | ((try simp only [D3, B0, szR] at *); omega) | (have hc2 := hc; simp only [P3, beq_iff_eq, bne_iff_ne, A6, F8] at hc2; omega))) rfl) ?_
 refine D4 rfl (fun hc => H0 rfl (A9 rfl hc) Q4 G5) ?_
 refine D4 rfl (fun hc => C4 rfl (A0 rfl)) ?_
 refine D4 rfl (fun hc => n2 rfl (A9 rfl hc) y v (hp y (H5 (hy (by first | omega | ((try simp only [D3, B0, szR] at *); omega) | (have hc2 := hc; simp only [P3, beq_iff_eq, bne_iff_ne, A6, F8] at hc2; omega))))) (A9 rfl hc) (A9 rfl hc)) ?_
 refine D4 rfl (fun hc => R4 rfl (A9 rfl hc) B4) ?_
 refine A1 rfl (I1 rfl (A0 rfl) (F6 rfl)) ?_
 refine B1 rfl ?_
 refine B1 rfl ?_
 refine A4 ?_
 refine B8 ?_
 exact g9 rfl (by decide) (J2 (B7 rfl (by first | exact congrArg AV.int (by rw [hge]) | exact congrArg AV.bool (by rw [hge]; unfold bsAt; simp only [A6]; cases Nat.lt_or_ge i l.length with | inl hi => (rw [hy hi]; simp [hi]) | inr hi => (rw [List.getElem?_eq_none (by omega)]; simp only [decide_eq_false (show ¬ ((i : Int) < (l.length : Int)) by omega), Bool.false_and])))) (J2 (B7 rfl (by first | exact congrArg AV.int (by rw [hge]) | exact congrArg AV.bool (by rw [hge]; unfold bsAt; simp only [A6]; cases Nat.lt_or_ge i l.length with | inl hi => (rw [hy hi]; simp [hi]) | inr hi => (rw [List.getElem?_eq_none (by omega)]; simp only [decide_eq_false (show ¬ ((i : Int) < (l.length : Int)) by omega), Bool.false_and])))) R6))
theorem AA9 (l : List TCell) (v : Str) (pre : TCell → Str → Prop) (hp : ∀ x ∈ l, pre x v) (f : TCell → Str → Int) (hl2 : l.length ≤ 4611686018427387903) : FSpec Tryz.prog 172 [AV.list 2 (l.map TCell.cs), AV.str v, AV.fun2 Tryz.prog pre (fun a => AV.agg a.cs) (fun b => AV.str b) (fun a b => AV.int (f a b))] (AV.tup [AV.int (bs (fun x => f x v) l 0 l.length), AV.bool (bsAt (fun x => f x v) l (bs (fun x => f x v) l 0 l.length))]) := by
 refine D0 Tryz.func172 rfl Tryz.ntmps172 rfl ?_
 refine M6 (t := 0) rfl fun hl => ?_
 try simp only [A6] at hl
 refine A3 (A2 ?_)
 refine A1 rfl (A7 rfl B4) ?_
 refine A1 rfl (A7 rfl E2) ?_
 refine A4 (A3 (A2 ?_))
 refine A5 rfl ?_
 refine A1 rfl (E7 rfl F3 (A0 rfl)) ?_
 refine B1 rfl ?_
 refine A4 (A3 (A2 ?_))
 refine A5 rfl ?_
 refine A1 rfl (A7 rfl B4) ?_
 refine B1 rfl ?_
 refine A4 (A3 (C3 ?_))
 refine J7 [(0, _), (1, _), (2, _), (6, _), (7, _), (8, _)] _ (fun (i : Nat) (j : Nat) => i ≤ j ∧ j ≤ l.length ∧ bs (fun x => f x v) l 0 l.length = bs (fun x => f x v) l i j) (fun (i : Nat) (j : Nat) => []) (fun (i : Nat) (j : Nat) => [(9, AV.int i), (10, AV.int j)]) (fun (i : Nat) (j : Nat) => j - i) (0) ((l.map TCell.cs).length) ?_ (G6 ⟨rfl, rfl, rfl, rfl, rfl, rfl, rfl, rfl, trivial⟩) ?_
 ·exact ⟨Nat.zero_le _, by simp, by simp⟩
 intro i j hinv
 refine A3 (A3 (A2 ?_))
 refine A5 rfl ?_
 refine A5 rfl ?_
 refine A1 rfl (F7 rfl (A0 rfl) (A0 rfl)) ?_
 refine A4 ?_
 refine C0 (A0 rfl) ?_ ?_
 ·intro h17
  have k17 := of_decide_eq_true h17; try simp only [A6] at k17
  have hlt : i < j := by omega
  obtain ⟨x, hx⟩ := get_some (show (i + j) / 2 < l.length by omega)
  refine C1 (C3 (A3 (A2 ?_)))
  refine A5 rfl ?_
  refine A5 rfl ?_
  refine A1 rfl (E9 rfl (A0 rfl) (A0 rfl) (by omega)) ?_
  refine A1 rfl (s9 rfl (by kernel_rfl) Tryz.underlying158 (A0 rfl)) ?_
  refine A1 rfl (w_shr rfl (A0 rfl) B4 (by decide) (by decide)) ?_
  refine A1 rfl (s9 rfl (by kernel_rfl) T6 (A0 rfl)) ?_
  refine B1 rfl ?_
  refine A4 (A3 (A2 ?_))
  rw [AR7 (by omega)]
  refine A5 rfl ?_
  refine A5 rfl ?_
  refine A5 rfl ?_
  refine A1 rfl (I8 rfl F3 F2 (A0 rfl) (A0 rfl) hx (by first | omega | (simp only [D3, B0, szR] at *; omega))) ?_
  refine A1 rfl (H0 rfl (A0 rfl) O0 F2) ?_
  refine A5 rfl ?_
  refine A1 rfl (n2 rfl (A0 rfl) x v (hp x (H5 hx)) (A0 rfl) (A0 rfl)) ?_
  refine A1 rfl (F7 rfl (A0 rfl) B4) ?_
  refine A4 ?_
  refine C0 (A0 rfl) ?_ ?_
  ·intro h31
   have k31 := of_decide_eq_true h31; try simp only [A6] at k31
   refine A2 ?_
   refine A5 rfl ?_
   refine A1 rfl (E9 rfl (A0 rfl) B4 (by first | omega | (simp only [D3, B0, szR] at *; omega))) ?_
   refine B1 rfl ?_
   refine A4 ?_
   refine l5 ?_
   refine J5 i j ((i + j) / 2 + 1) (j) ?_ ?_ (G6 ⟨rfl, rfl, rfl, rfl, rfl, rfl, rfl, rfl, trivial⟩)
   ·exact ⟨by omega, by omega, by rw [hinv.2.2, Aa7 hlt hx k31]⟩
   omega
  intro h31
  have k31 := of_decide_eq_false h31; try simp only [A6] at k31
  refine A2 ?_
  refine A5 rfl ?_
  refine B1 rfl ?_
  refine A4 ?_
  refine l5 ?_
  refine J5 i j (i) ((i + j) / 2) ?_ ?_ (G6 ⟨rfl, rfl, rfl, rfl, rfl, rfl, rfl, rfl, trivial⟩)
  ·exact ⟨by omega, by omega, by rw [hinv.2.2, Aa8 hlt hx k31]⟩
  omega
 intro h17
 have k17 := of_decide_eq_false h17; try simp only [A6] at k17
 have hge : bs (fun x => f x v) l 0 l.length = i := by rw [hinv.2.2, AO0 (by omega)]
 obtain ⟨y, hy⟩ := AA7 l i
 refine F1 ?_
 refine A3 (A2 ?_)
 refine A5 rfl ?_
 refine A5 rfl ?_
 refine A5 rfl ?_
 refine A1 rfl (F7 rfl (A0 rfl) (A0 rfl)) ?_
 refine A5 rfl ?_
 refine D4 rfl (fun hc => C4 rfl (A0 rfl)) ?_
 refine D4 rfl (fun hc => C4 rfl (A0 rfl)) ?_
 refine D4 rfl (fun hc => C4 rfl (A0 rfl)) ?_
 refine D4 rfl (fun hc => I8 rfl F3 F2 (A9 rfl hc) (A9 rfl hc) (hy (by first | omega | ((try simp only [D3, B0, szR] at *); omega) | (have hc2 := hc; simp only [P3, beq_iff_eq, bne_iff_ne, A6, F8] at hc2; omega))) rfl) ?_
 refine D4 rfl (fun hc => H0 rfl (A9 rfl hc) O0 F2) ?_
 refine D4 rfl (fun hc => C4 rfl (A0 rfl)) ?_
 refine D4 rfl (fun hc => n2 rfl (A9 rfl hc) y v (hp y (H5 (hy (by first | omega | ((try simp only [D3, B0, szR] at *); omega) | (have hc2 := hc; simp only [P3, beq_iff_eq, bne_iff_ne, A6, F8] at hc2; omega))))) (A9 rfl hc) (A9 rfl hc)) ?_
 refine D4 rfl (fun hc => R4 rfl (A9 rfl hc) B4) ?_
 refine A1 rfl (I1 rfl (A0 rfl) (F6 rfl)) ?_
 refine B1 rfl ?_
 refine B1 rfl ?_
 refine A4 ?_
 refine B8 ?_
 exact g9 rfl (by decide) (J2 (B7 rfl (by first | exact congrArg AV.int (by rw [hge]) | exact congrArg AV.bool (by rw [hge]; unfold bsAt; simp only [A6]; cases Nat.lt_or_ge i l.length with | inl hi => (rw [hy hi]; simp [hi]) | inr hi => (rw [List.getElem?_eq_none (by omega)]; simp only [decide_eq_false (show ¬ ((i : Int) < (l.length : Int)) by omega), Bool.false_and])))) (J2 (B7 rfl (by first | exact congrArg AV.int (by rw [hge]) | exact congrArg AV.bool (by rw [hge]; unfold bsAt; simp only [A6]; cases Nat.lt_or_ge i l.length with | inl hi => (rw [hy hi]; simp [hi]) | inr hi => (rw [List.getElem?_eq_none (by omega)]; simp only [decide_eq_false (show ¬ ((i : Int) < (l.length : Int)) by omega), Bool.false_and])))) R6))
theorem AB0 (l : List THeld) (v : Int) (pre : THeld → Int → Prop) (hp : ∀ x ∈ l, pre x v) (f : THeld → Int → Int) (hl2 : l.length ≤ 4611686018427387903) : FSpec Tryz.prog 144 [AV.list 5 (l.map THeld.cs), AV.int v, AV.fun2 Tryz.prog pre (fun a => AV.agg a.cs) (fun b => AV.int b) (fun a b => AV.int (f a b))] (AV.tup [AV.int (bs (fun x => f x v) l 0 l.length), AV.bool (bsAt (fun x => f x v) l (bs (fun x => f x v) l 0 l.length))]) := by
 refine D0 Tryz.func144 rfl Tryz.ntmps144 rfl ?_
 refine M6 (t := 0) rfl fun hl => ?_
 try simp only [A6] at hl
 refine A3 (A2 ?_)
 refine A1 rfl (A7 rfl B4) ?_
 refine A1 rfl (A7 rfl E2) ?_
 refine A4 (A3 (A2 ?_))
 refine A5 rfl ?_
 refine A1 rfl (E7 rfl F5 (A0 rfl)) ?_
 refine B1 rfl ?_
 refine A4 (A3 (A2 ?_))
 refine A5 rfl ?_
 refine A1 rfl (A7 rfl B4) ?_
 refine B1 rfl ?_
 refine A4 (A3 (C3 ?_))
 refine J7 [(0, _), (1, _), (2, _), (6, _), (7, _), (8, _)] _ (fun (i : Nat) (j : Nat) => i ≤ j ∧ j ≤ l.length ∧ bs (fun x => f x v) l 0 l.length = bs (fun x => f x v) l i j) (fun (i : Nat) (j : Nat) => []) (fun (i : Nat) (j : Nat) => [(9, AV.int i), (10, AV.int j)]) (fun (i : Nat) (j : Nat) => j - i) (0) ((l.map THeld.cs).length) ?_ (G6 ⟨rfl, rfl, rfl, rfl, rfl, rfl, rfl, rfl, trivial⟩) ?_
 ·exact ⟨Nat.zero_le _, by simp, by simp⟩
 intro i j hinv
 refine A3 (A3 (A2 ?_))
 refine A5 rfl ?_
 refine A5 rfl ?_
 refine A1 rfl (F7 rfl (A0 rfl) (A0 rfl)) ?_
 refine A4 ?_
 refine C0 (A0 rfl) ?_ ?_
 ·intro h17
  have k17 := of_decide_eq_true h17; try simp only [A6] at k17
  have hlt : i < j := by omega
  obtain ⟨x, hx⟩ := get_some (show (i + j) / 2 < l.length by omega)
  refine C1 (C3 (A3 (A2 ?_)))
  refine A5 rfl ?_
  refine A5 rfl ?_
  refine A1 rfl (E9 rfl (A0 rfl) (A0 rfl) (by omega)) ?_
  refine A1 rfl (s9 rfl (by kernel_rfl) Tryz.underlying158 (A0 rfl)) ?_
  refine A1 rfl (w_shr rfl (A0 rfl) B4 (by decide) (by decide)) ?_
  refine A1 rfl (s9 rfl (by kernel_rfl) T6 (A0 rfl)) ?_
  refine B1 rfl ?_
  refine A4 (A3 (A2 ?_))
  rw [AR7 (by omega)]
  refine A5 rfl ?_
  refine A5 rfl ?_
  refine A5 rfl ?_
  refine A1 rfl (I8 rfl F5 E8 (A0 rfl) (A0 rfl) hx (by first | omega | (simp only [D3, B0, szR] at *; omega))) ?_
  refine A1 rfl (H0 rfl (A0 rfl) K5 E8) ?_
  refine A5 rfl ?_
  refine A1 rfl (n2 rfl (A0 rfl) x v (hp x (H5 hx)) (A0 rfl) (A0 rfl)) ?_
  refine A1 rfl (F7 rfl (A0 rfl) B4) ?_
  refine A4 ?_
  refine C0 (A0 rfl) ?_ ?_
  ·intro h31
   have k31 := of_decide_eq_true h31; try simp only [A6] at k31
   refine A2 ?_
   refine A5 rfl ?_
   refine A1 rfl (E9 rfl (A0 rfl) B4 (by first | omega | (simp only [D3, B0, szR] at *; omega))) ?_
   refine B1 rfl ?_
   refine A4 ?_
   refine l5 ?_
   refine J5 i j ((i + j) / 2 + 1) (j) ?_ ?_ (G6 ⟨rfl, rfl, rfl, rfl, rfl, rfl, rfl, rfl, trivial⟩)
   ·exact ⟨by omega, by omega, by rw [hinv.2.2, Aa7 hlt hx k31]⟩
   omega
  intro h31
  have k31 := of_decide_eq_false h31; try simp only [A6] at k31
  refine A2 ?_
  refine A5 rfl ?_
  refine B1 rfl ?_
  refine A4 ?_
  refine l5 ?_
  refine J5 i j (i) ((i + j) / 2) ?_ ?_ (G6 ⟨rfl, rfl, rfl, rfl, rfl, rfl, rfl, rfl, trivial⟩)
  ·exact ⟨by omega, by omega, by rw [hinv.2.2, Aa8 hlt hx k31]⟩
  omega
 intro h17
 have k17 := of_decide_eq_false h17; try simp only [A6] at k17
 have hge : bs (fun x => f x v) l 0 l.length = i := by rw [hinv.2.2, AO0 (by omega)]
 obtain ⟨y, hy⟩ := AA7 l i
 refine F1 ?_
 refine A3 (A2 ?_)
 refine A5 rfl ?_
 refine A5 rfl ?_
 refine A5 rfl ?_
 refine A1 rfl (F7 rfl (A0 rfl) (A0 rfl)) ?_
 refine A5 rfl ?_
 refine D4 rfl (fun hc => C4 rfl (A0 rfl)) ?_
 refine D4 rfl (fun hc => C4 rfl (A0 rfl)) ?_
 refine D4 rfl (fun hc => C4 rfl (A0 rfl)) ?_
 refine D4 rfl (fun hc => I8 rfl F5 E8 (A9 rfl hc) (A9 rfl hc) (hy (by first | omega | ((try simp only [D3, B0, szR] at *); omega) | (have hc2 := hc; simp only [P3, beq_iff_eq, bne_iff_ne, A6, F8] at hc2; omega))) rfl) ?_
 refine D4 rfl (fun hc => H0 rfl (A9 rfl hc) K5 E8) ?_
 refine D4 rfl (fun hc => C4 rfl (A0 rfl)) ?_
 refine D4 rfl (fun hc => n2 rfl (A9 rfl hc) y v (hp y (H5 (hy (by first | omega | ((try simp only [D3, B0, szR] at *); omega) | (have hc2 := hc; simp only [P3, beq_iff_eq, bne_iff_ne, A6, F8] at hc2; omega))))) (A9 rfl hc) (A9 rfl hc)) ?_
 refine D4 rfl (fun hc => R4 rfl (A9 rfl hc) B4) ?_
 refine A1 rfl (I1 rfl (A0 rfl) (F6 rfl)) ?_
 refine B1 rfl ?_
 refine B1 rfl ?_
 refine A4 ?_
 refine B8 ?_
 exact g9 rfl (by decide) (J2 (B7 rfl (by first | exact congrArg AV.int (by rw [hge]) | exact congrArg AV.bool (by rw [hge]; unfold bsAt; simp only [A6]; cases Nat.lt_or_ge i l.length with | inl hi => (rw [hy hi]; simp [hi]) | inr hi => (rw [List.getElem?_eq_none (by omega)]; simp only [decide_eq_false (show ¬ ((i : Int) < (l.length : Int)) by omega), Bool.false_and])))) (J2 (B7 rfl (by first | exact congrArg AV.int (by rw [hge]) | exact congrArg AV.bool (by rw [hge]; unfold bsAt; simp only [A6]; cases Nat.lt_or_ge i l.length with | inl hi => (rw [hy hi]; simp [hi]) | inr hi => (rw [List.getElem?_eq_none (by omega)]; simp only [decide_eq_false (show ¬ ((i : Int) < (l.length : Int)) by omega), Bool.false_and])))) R6))
theorem AL6 (l : List Str) (v : Str) : FSpec Tryz.prog 231 [strs l, AV.str v] (AV.int (idxFrom (fun x => v == x) l 0)) := by
 refine D0 Tryz.func231 rfl Tryz.ntmps231 rfl ?_
 refine M6 (t := 0) rfl fun hl => ?_
 try simp only [A6] at hl
 refine A3 (A2 ?_)
 refine A1 rfl (A7 rfl B4) ?_
 refine A4 (A3 (A3 (A2 ?_)))
 refine A5 rfl ?_
 refine A1 rfl (E7 rfl D6 (A0 rfl)) ?_
 refine A1 rfl (C4 rfl B4) ?_
 refine A4 (C3 ?_)
 refine G4 [(0, _), (1, _), (7, _)] _ (fun (i : Nat) => i ≤ l.length ∧ idxFrom (fun x => v == x) l 0 = idxFrom (fun x => v == x) (l.drop i) i) (fun (i : Nat) => []) (fun (i : Nat) => [(8, AV.int i)]) (fun (i : Nat) => l.length - i) (0) ?_ (G6 ⟨rfl, rfl, rfl, rfl, trivial⟩) ?_
 ·exact ⟨Nat.zero_le _, rfl⟩
 intro i hinv
 refine A3 (A2 ?_)
 refine A1 rfl (F7 rfl (A0 rfl) (A0 rfl)) ?_
 refine A4 (A3 ?_)
 refine C0 (A0 rfl) ?_ ?_
 ·intro h9
  have k9 := of_decide_eq_true h9; try simp only [A6] at k9
  have hlt : i < l.length := by omega
  obtain ⟨x, hx⟩ := get_some hlt
  refine C1 (A3 (C3 (A3 (A2 ?_))))
  refine A5 rfl ?_
  refine B1 rfl ?_
  refine A4 (A3 (A2 ?_))
  refine A5 rfl ?_
  refine A5 rfl ?_
  refine A5 rfl ?_
  refine A1 rfl (I8 rfl D6 D2 (A0 rfl) (A0 rfl) hx (by first | omega | (simp only [D3, B0, szR] at *; omega))) ?_
  refine A1 rfl (K1 rfl (A0 rfl) E6 rfl) ?_
  refine A1 rfl (t1 rfl (A0 rfl) (A0 rfl)) ?_
  refine A4 ?_
  refine C0 (A0 rfl) ?_ ?_
  ·intro h16
   refine A3 (A2 ?_)
   refine A5 rfl ?_
   refine B1 rfl ?_
   refine A4 ?_
   refine B8 ?_
   exact E4 rfl (B7 rfl (by first | exact congrArg AV.int (by rw [hinv.2, drop_some hx, idxFrom, h16]; rfl) | exact congrArg AV.int (by rw [hinv.2, List.drop_eq_nil_of_le hge]; rfl)))
  intro h16
  refine C1 (A2 ?_)
  refine A1 rfl (E9 rfl (A0 rfl) B4 (by first | omega | (simp only [D3, B0, szR] at *; omega))) ?_
  refine A5 rfl ?_
  refine A4 ?_
  refine H6 i (i + 1) ?_ ?_ (G6 ⟨rfl, rfl, rfl, rfl, trivial⟩)
  ·exact ⟨by omega, by rw [hinv.2, drop_some hx, idxFrom, h16]; simp⟩
  omega
 intro h9
 have k9 := of_decide_eq_false h9; try simp only [A6] at k9
 have hge : l.length ≤ i := by omega
 refine F1 ?_
 refine A3 (A2 ?_)
 refine A1 rfl (A7 rfl B4) ?_
 refine A4 ?_
 refine B8 ?_
 exact E4 rfl (B7 rfl (by first | exact congrArg AV.int (by rw [hinv.2, drop_some hx, idxFrom, h16]; rfl) | exact congrArg AV.int (by rw [hinv.2, List.drop_eq_nil_of_le hge]; rfl)))
theorem AE8 (l : List Str) (v : Str) : FSpec Tryz.prog 220 [strs l, AV.str v] (AV.bool (l.any fun x => v == x)) := by
 refine D0 Tryz.func220 rfl Tryz.ntmps220 rfl ?_
 refine A3 (A2 ?_)
 refine A1 rfl (A7 rfl E2) ?_
 refine A4 (A3 (A2 ?_))
 refine A5 rfl ?_
 refine A5 rfl ?_
 refine A1 rfl (D8 rfl Tryz.call231 rfl (AL6 _ _) (A8 (A0 rfl) (A8 (A0 rfl) C8))) ?_
 refine A1 rfl (X3 rfl (A0 rfl) B4) ?_
 refine B1 rfl ?_
 refine A4 ?_
 refine B8 ?_
 exact E4 rfl (B7 rfl (by exact congrArg AV.bool (i6 (fun x => v == x) l 0 (Int.le_refl 0))))
end Go.Proofs.YtkegepoihkhihaaGreat

namespace Go.Proofs.YtkegepoihkhihaaGreat
open Go Go.AV Go.M
attribute [local irreducible] OpW OpA OpS AWP FSpec ESpec RetOk RvDen Le Ev GuardIs
theorem c6 (t : Int) : FSpec Tryz.prog 111 [AV.int t] (AV.bool (isTime t)) := by
 refine D0 Tryz.func111 rfl Tryz.ntmps111 rfl ?_
 refine A3 (A2 ?_)
 refine A1 rfl (A7 rfl E2) ?_
 refine A4 (A3 (A2 ?_))
 refine A5 rfl ?_
 refine A1 rfl (D8 rfl Tryz.call82 rfl (W9 _ _ _) (A8 (A0 rfl) (A8 B4 (A8 B4 C8)))) ?_
 refine B1 rfl ?_
 refine A4 ?_
 refine B8 ?_
 exact E4 rfl (B7 rfl (by first | rfl | (refine congrArg AV.bool ?_; simp_all; done)))
theorem AD8 (s : Str) (g : Bool) (hs : s.length ≤ 4611686018427387904) : FSpec Tryz.prog 113 [AV.str s, AV.bool g] (AV.bool (isStored s g)) := by
 refine D0 Tryz.func113 rfl Tryz.ntmps113 rfl ?_
 refine A3 (A2 ?_)
 refine A1 rfl (A7 rfl E2) ?_
 refine A4 (A3 (A2 ?_))
 refine A5 rfl ?_
 refine A1 rfl (D8 rfl Tryz.call167 rfl (Ac1 _ (by omega)) (A8 (A0 rfl) C8)) ?_
 refine A5 rfl ?_
 refine D4 rfl (fun hc => C4 rfl (A0 rfl)) ?_
 refine D4 rfl (fun hc => C4 rfl (A9 rfl hc)) ?_
 refine H9 rfl rfl (D9 rfl rfl rfl) (fun hc => C4 rfl (A0 rfl)) ?_
 refine H9 rfl rfl (D9 rfl rfl rfl) (fun hc => a7 rfl (A9 rfl hc) (i4 (l := []) rfl)) ?_
 refine D4 rfl (fun hc => I1 rfl (A9 rfl hc) (O2 rfl hc)) ?_
 refine D4 rfl (fun hc => J3 rfl (A9 rfl hc)) ?_
 refine A1 rfl (I1 rfl (A0 rfl) (F6 rfl)) ?_
 refine B1 rfl ?_
 refine A4 ?_
 refine B8 ?_
 exact E4 rfl (B7 rfl (by first | rfl | (refine congrArg AV.bool ?_; simp_all; done)))
theorem Ap7 (s : Str) (hs : s.length ≤ 4611686018427387904) : FSpec Tryz.prog 207 [AV.str s] (AV.bool (l3Val s)) := by
 refine D0 Tryz.func207 rfl Tryz.ntmps207 rfl ?_
 refine A3 (A2 ?_)
 refine A1 rfl (A7 rfl E2) ?_
 refine A4 (A3 (A2 ?_))
 refine A5 rfl ?_
 refine A1 rfl (a8 rfl J0 (A0 rfl)) ?_
 refine A1 rfl (S3 rfl (A0 rfl) B4) ?_
 refine A5 rfl ?_
 refine D4 rfl (fun hc => C4 rfl (A0 rfl)) ?_
 refine D4 rfl (fun hc => D8 rfl Tryz.call223 rfl (AF7 _ _ (by omega) (by decide)) (A8 (A9 rfl hc) (A8 (i4 (l := [46, 45, 44, 95]) rfl) C8))) ?_
 refine A1 rfl (I1 rfl (A0 rfl) (F6 rfl)) ?_
 refine B1 rfl ?_
 refine A4 ?_
 refine B8 ?_
 exact E4 rfl (B7 rfl (by first | rfl | (refine congrArg AV.bool ?_; simp_all; done)))
theorem u3 (k s : Str) (g : Bool) (hk : k.length ≤ 4611686018427387904) (hs : s.length ≤ 4611686018427387904) : FSpec Tryz.prog 165 [AV.str k, AV.str s, AV.bool g] (AV.bool (l3Write k s g)) := by
 refine D0 Tryz.func165 rfl Tryz.ntmps165 rfl ?_
 refine A3 (A2 ?_)
 refine A1 rfl (A7 rfl E2) ?_
 refine A4 (A3 (A2 ?_))
 refine A5 rfl ?_
 refine A1 rfl (D8 rfl Tryz.call198 rfl (AC2 _ (by omega)) (A8 (A0 rfl) C8)) ?_
 refine A5 rfl ?_
 refine D4 rfl (fun hc => C4 rfl (A0 rfl)) ?_
 refine D4 rfl (fun hc => D8 rfl Tryz.call207 rfl (Ap7 _ (by omega)) (A8 (A9 rfl hc) C8)) ?_
 refine A1 rfl (I1 rfl (A0 rfl) (F6 rfl)) ?_
 refine A5 rfl ?_
 refine D4 rfl (fun hc => C4 rfl (A0 rfl)) ?_
 refine D4 rfl (fun hc => J3 rfl (A9 rfl hc)) ?_
 refine D4 rfl (fun hc => C4 rfl (A9 rfl hc)) ?_
 refine H9 rfl rfl (N0 rfl rfl rfl) (fun hc => C4 rfl (A0 rfl)) ?_
 refine H9 rfl rfl (N0 rfl rfl rfl) (fun hc => t1 rfl (A9 rfl hc) (i4 (l := []) rfl)) ?_
 refine D4 rfl (fun hc => P4 rfl (A9 rfl hc) (O2 rfl hc)) ?_
 refine A1 rfl (I1 rfl (A0 rfl) (F6 rfl)) ?_
 refine B1 rfl ?_
 refine A4 ?_
 refine B8 ?_
 exact E4 rfl (B7 rfl (by first | rfl | (refine congrArg AV.bool ?_; simp_all; done)))
theorem Ac2 (c : TFeedItem) (hs : c.size ≤ 1048576) : FSpec Tryz.prog 108 [AV.agg c.cs] (AV.bool (l23Good c)) := by
 have hs' := hs; unfold TFeedItem.size at hs'
 refine D0 Tryz.func108 rfl Tryz.ntmps108 rfl ?_
 refine A3 (A2 ?_)
 refine I6 rfl rfl rfl rfl (A0 rfl) ?_
 intro b1
 refine A1 rfl (A7 rfl E2) ?_
 refine A4 (A3 (A2 ?_))
 refine A1 rfl (B5 0 rfl F4 rfl B9 (A0 rfl) rfl) ?_
 refine A1 rfl (B2 0 rfl (A0 rfl) rfl D1 rfl) ?_
 refine A1 rfl (D8 rfl Tryz.call39 rfl (R9 _ _ _) (A8 (A0 rfl) (A8 B4 (A8 B4 C8)))) ?_
 refine A5 rfl ?_
 refine D4 rfl (fun hc => B5 1 rfl F4 rfl B9 (A0 rfl) rfl) ?_
 refine D4 rfl (fun hc => B2 0 rfl (A9 rfl hc) rfl D1 rfl) ?_
 refine D4 rfl (fun hc => D8 rfl Tryz.call39 rfl (R9 _ _ _) (A8 (A9 rfl hc) (A8 B4 (A8 B4 C8)))) ?_
 refine A1 rfl (I1 rfl (A0 rfl) (F6 rfl)) ?_
 refine A5 rfl ?_
 refine D4 rfl (fun hc => B5 2 rfl F4 rfl D2 (A0 rfl) rfl) ?_
 refine D4 rfl (fun hc => B2 0 rfl (A9 rfl hc) rfl E6 rfl) ?_
 refine D4 rfl (fun hc => B5 3 rfl F4 rfl D2 (A0 rfl) rfl) ?_
 refine D4 rfl (fun hc => B2 0 rfl (A9 rfl hc) rfl E6 rfl) ?_
 refine D4 rfl (fun hc => B5 4 rfl F4 rfl G3 (A0 rfl) rfl) ?_
 refine D4 rfl (fun hc => B2 0 rfl (A9 rfl hc) rfl I9 rfl) ?_
 refine D4 rfl (fun hc => D8 rfl Tryz.call165 rfl (u3 _ _ _ (by omega) (by omega)) (A8 (A9 rfl hc) (A8 (A9 rfl hc) (A8 (A9 rfl hc) C8)))) ?_
 refine A1 rfl (I1 rfl (A0 rfl) (F6 rfl)) ?_
 refine B1 rfl ?_
 refine A4 ?_
 refine B8 ?_
 exact E4 rfl (B7 rfl (by first | rfl | (refine congrArg AV.bool ?_; simp_all; done)))
theorem AD9 (t : Int) : FSpec Tryz.prog 159 [AV.int t] (AV.bool false) := by
 refine D0 Tryz.func159 rfl Tryz.ntmps159 rfl ?_
 refine A3 (A2 ?_)
 refine A1 rfl (A7 rfl E2) ?_
 refine A4 (A3 (A2 ?_))
 refine A5 rfl ?_
 refine A5 rfl ?_
 refine A1 rfl (S2 rfl (A0 rfl) (A0 rfl)) ?_
 refine B1 rfl ?_
 refine A4 ?_
 refine B8 ?_
 exact E4 rfl (B7 rfl (by exact congrArg AV.bool (by simp)))
theorem AE0 (t : Str) : FSpec Tryz.prog 160 [AV.str t] (AV.bool false) := by
 refine D0 Tryz.func160 rfl Tryz.ntmps160 rfl ?_
 refine A3 (A2 ?_)
 refine A1 rfl (A7 rfl E2) ?_
 refine A4 (A3 (A2 ?_))
 refine A5 rfl ?_
 refine A5 rfl ?_
 refine A1 rfl (a7 rfl (A0 rfl) (A0 rfl)) ?_
 refine B1 rfl ?_
 refine A4 ?_
 refine B8 ?_
 exact E4 rfl (B7 rfl (by exact congrArg AV.bool (by simp)))
theorem z8 (x y : Int) : FSpec Tryz.prog 104 [AV.int x, AV.int y] (AV.int (cmpInt x y)) := by
 refine D0 Tryz.func104 rfl Tryz.ntmps104 rfl ?_
 refine A3 (A2 ?_)
 refine A1 rfl (A7 rfl B4) ?_
 refine A4 (A3 (A2 ?_))
 refine A5 rfl ?_
 refine A1 rfl (D8 rfl Tryz.call159 rfl (AD9 _) (A8 (A0 rfl) C8)) ?_
 refine B1 rfl ?_
 refine A4 (A3 (A2 ?_))
 refine A5 rfl ?_
 refine A1 rfl (D8 rfl Tryz.call159 rfl (AD9 _) (A8 (A0 rfl) C8)) ?_
 refine B1 rfl ?_
 refine A4 (A3 (A3 (A2 ?_)))
 refine A5 rfl ?_
 refine A4 ?_
 refine C0 (A0 rfl) ?_ ?_
 ·intro h11
  cases h11
 intro h11
 refine C1 (A3 (A3 (A2 ?_)))
 refine A5 rfl ?_
 refine A4 ?_
 refine C0 (A0 rfl) ?_ ?_
 ·intro h13
  cases h13
 intro h13
 refine C1 (A3 (A3 (A2 ?_)))
 refine A5 rfl ?_
 refine A5 rfl ?_
 refine A1 rfl (F7 rfl (A0 rfl) (A0 rfl)) ?_
 refine A4 ?_
 refine C0 (A0 rfl) ?_ ?_
 ·intro h16
  have k16 := of_decide_eq_true h16; try simp only [A6] at k16
  refine A3 (A2 ?_)
  refine A1 rfl (A7 rfl B4) ?_
  refine A4 ?_
  refine B8 ?_
  exact E4 rfl (B7 rfl (by exact congrArg AV.int (by unfold cmpInt; (repeat' split) <;> omega)))
 intro h16
 have k16 := of_decide_eq_false h16; try simp only [A6] at k16
 refine C1 (A3 (A3 (A2 ?_)))
 refine A5 rfl ?_
 refine A5 rfl ?_
 refine A1 rfl (S4 rfl (A0 rfl) (A0 rfl)) ?_
 refine A4 ?_
 refine C0 (A0 rfl) ?_ ?_
 ·intro h19
  have k19 := of_decide_eq_true h19; try simp only [A6] at k19
  refine A3 (A2 ?_)
  refine A1 rfl (A7 rfl B4) ?_
  refine A4 ?_
  refine B8 ?_
  exact E4 rfl (B7 rfl (by exact congrArg AV.int (by unfold cmpInt; (repeat' split) <;> omega)))
 intro h19
 have k19 := of_decide_eq_false h19; try simp only [A6] at k19
 refine C1 (A3 (A2 ?_))
 refine A1 rfl (A7 rfl B4) ?_
 refine A4 ?_
 refine B8 ?_
 exact E4 rfl (B7 rfl (by exact congrArg AV.int (by unfold cmpInt; (repeat' split) <;> omega)))
theorem AA0 (x y : Str) : FSpec Tryz.prog 105 [AV.str x, AV.str y] (AV.int (cmpStr x y)) := by
 refine D0 Tryz.func105 rfl Tryz.ntmps105 rfl ?_
 refine A3 (A2 ?_)
 refine A1 rfl (A7 rfl B4) ?_
 refine A4 (A3 (A2 ?_))
 refine A5 rfl ?_
 refine A1 rfl (D8 rfl Tryz.call160 rfl (AE0 _) (A8 (A0 rfl) C8)) ?_
 refine B1 rfl ?_
 refine A4 (A3 (A2 ?_))
 refine A5 rfl ?_
 refine A1 rfl (D8 rfl Tryz.call160 rfl (AE0 _) (A8 (A0 rfl) C8)) ?_
 refine B1 rfl ?_
 refine A4 (A3 (A3 (A2 ?_)))
 refine A5 rfl ?_
 refine A4 ?_
 refine C0 (A0 rfl) ?_ ?_
 ·intro h11
  cases h11
 intro h11
 refine C1 (A3 (A3 (A2 ?_)))
 refine A5 rfl ?_
 refine A4 ?_
 refine C0 (A0 rfl) ?_ ?_
 ·intro h13
  cases h13
 intro h13
 refine C1 (A3 (A3 (A2 ?_)))
 refine A5 rfl ?_
 refine A5 rfl ?_
 refine A1 rfl (w_slss rfl (A0 rfl) (A0 rfl)) ?_
 refine A4 ?_
 refine C0 (A0 rfl) ?_ ?_
 ·intro h16
  refine A3 (A2 ?_)
  refine A1 rfl (A7 rfl B4) ?_
  refine A4 ?_
  refine B8 ?_
  exact E4 rfl (B7 rfl (by exact congrArg AV.int (by have := bytesLess_tri y x; unfold cmpStr; simp_all)))
 intro h16
 refine C1 (A3 (A3 (A2 ?_)))
 refine A5 rfl ?_
 refine A5 rfl ?_
 refine A1 rfl (w_sgtr rfl (A0 rfl) (A0 rfl)) ?_
 refine A4 ?_
 refine C0 (A0 rfl) ?_ ?_
 ·intro h19
  refine A3 (A2 ?_)
  refine A1 rfl (A7 rfl B4) ?_
  refine A4 ?_
  refine B8 ?_
  exact E4 rfl (B7 rfl (by exact congrArg AV.int (by have := bytesLess_tri y x; unfold cmpStr; simp_all)))
 intro h19
 refine C1 (A3 (A2 ?_))
 refine A1 rfl (A7 rfl B4) ?_
 refine A4 ?_
 refine B8 ?_
 exact E4 rfl (B7 rfl (by exact congrArg AV.int (by have := bytesLess_tri y x; unfold cmpStr; simp_all)))
theorem Ap8 (l : List Int) : FSpec Tryz.prog 103 [ints l] (AV.int (orInt l)) := by
 refine D0 Tryz.func103 rfl Tryz.ntmps103 rfl ?_
 refine M6 (t := 0) rfl fun hl => ?_
 try simp only [A6] at hl
 refine A3 (A2 ?_)
 refine A1 rfl (A7 rfl B4) ?_
 refine A4 (A3 (A2 ?_))
 refine A1 rfl (A7 rfl B4) ?_
 refine A4 (A3 (A3 (A2 ?_)))
 refine A5 rfl ?_
 refine A1 rfl (E7 rfl Tryz.underlying117 (A0 rfl)) ?_
 refine A1 rfl (C4 rfl B4) ?_
 refine A4 (C3 ?_)
 refine G4 [(3, _), (6, _), (7, _)] _ (fun (i : Nat) => i ≤ l.length ∧ orInt l = orInt (l.drop i)) (fun (i : Nat) => []) (fun (i : Nat) => [(8, AV.int i)]) (fun (i : Nat) => l.length - i) (0) ?_ (G6 ⟨rfl, rfl, rfl, rfl, trivial⟩) ?_
 ·exact ⟨Nat.zero_le _, rfl⟩
 intro i hinv
 refine A3 (A2 ?_)
 refine A1 rfl (F7 rfl (A0 rfl) (A0 rfl)) ?_
 refine A4 (A3 ?_)
 refine C0 (A0 rfl) ?_ ?_
 ·intro h9
  have k9 := of_decide_eq_true h9; try simp only [A6] at k9
  have hlt : i < l.length := by omega
  obtain ⟨x, hx⟩ := get_some hlt
  refine C1 (A3 (C3 (A3 (A2 ?_))))
  refine A1 rfl (N5 rfl Tryz.underlying117 B9 (A0 rfl) (A0 rfl) (by omega) (by simp only [Int.toNat_natCast, List.getElem?_map, hx, Option.map_some]; try rfl)) ?_
  refine A1 rfl (K1 rfl (A0 rfl) D1 rfl) ?_
  refine B1 rfl ?_
  refine A4 (A3 (A2 ?_))
  refine A5 rfl ?_
  refine A5 rfl ?_
  refine A1 rfl (S2 rfl (A0 rfl) (A0 rfl)) ?_
  refine A4 ?_
  refine C0 (A0 rfl) ?_ ?_
  ·intro h14
   have k14 := N8 h14; try simp only [A6] at k14
   refine A3 (A2 ?_)
   refine A5 rfl ?_
   refine B1 rfl ?_
   refine A4 ?_
   refine B8 ?_
   exact E4 rfl (B7 rfl (by first | exact congrArg AV.int (by rw [hinv.2, drop_some hx, orInt]; simp [k14]) | exact congrArg AV.int (by rw [hinv.2, List.drop_eq_nil_of_le hge]; rfl)))
  intro h14
  have k14 := J4 h14; try simp only [A6] at k14
  refine C1 (A2 ?_)
  refine A1 rfl (E9 rfl (A0 rfl) B4 (by first | omega | (simp only [D3, B0, szR] at *; omega))) ?_
  refine A5 rfl ?_
  refine A4 ?_
  refine H6 i (i + 1) ?_ ?_ (G6 ⟨rfl, rfl, rfl, rfl, trivial⟩)
  ·exact ⟨by omega, by rw [hinv.2, drop_some hx, orInt]; simp [k14]⟩
  omega
 intro h9
 have k9 := of_decide_eq_false h9; try simp only [A6] at k9
 have hge : l.length ≤ i := by omega
 refine F1 ?_
 refine A3 (A2 ?_)
 refine A5 rfl ?_
 refine B1 rfl ?_
 refine A4 ?_
 refine B8 ?_
 exact E4 rfl (B7 rfl (by first | exact congrArg AV.int (by rw [hinv.2, drop_some hx, orInt]; simp [k14]) | exact congrArg AV.int (by rw [hinv.2, List.drop_eq_nil_of_le hge]; rfl)))
theorem AI8 (a b : TFeedItem) : FSpec Tryz.prog 64 [AV.agg a.cs, AV.agg b.cs] (AV.int (compareItems a b)) := by
 refine D0 Tryz.func64 rfl Tryz.ntmps64 rfl ?_
 refine A3 (A2 ?_)
 refine I6 rfl rfl rfl rfl (A0 rfl) ?_
 intro b2
 refine I6 rfl rfl rfl rfl (A0 rfl) ?_
 intro b3
 refine A1 rfl (A7 rfl B4) ?_
 refine A4 (A3 ?_)
 refine H7 (by kernel_rfl) (by kernel_rfl) rfl ?_
 refine B3 rfl rfl (B5 0 rfl F4 rfl B9 (A0 rfl) rfl) ?_
 refine B3 rfl rfl (B2 1 rfl (A0 rfl) rfl D1 rfl) ?_
 refine B3 rfl rfl (B5 0 rfl F4 rfl B9 (A0 rfl) rfl) ?_
 refine B3 rfl rfl (B2 0 rfl (A0 rfl) rfl D1 rfl) ?_
 refine B3 rfl rfl (D8 rfl Tryz.call104 rfl (z8 _ _) (A8 (A0 rfl) (A8 (A0 rfl) C8))) ?_
 refine B3 rfl rfl (B5 1 rfl F4 rfl B9 (A0 rfl) rfl) ?_
 refine B3 rfl rfl (B2 1 rfl (A0 rfl) rfl D1 rfl) ?_
 refine B3 rfl rfl (B5 1 rfl F4 rfl B9 (A0 rfl) rfl) ?_
 refine B3 rfl rfl (B2 0 rfl (A0 rfl) rfl D1 rfl) ?_
 refine B3 rfl rfl (D8 rfl Tryz.call104 rfl (z8 _ _) (A8 (A0 rfl) (A8 (A0 rfl) C8))) ?_
 refine B3 rfl rfl (B5 2 rfl F4 rfl D2 (A0 rfl) rfl) ?_
 refine B3 rfl rfl (B2 1 rfl (A0 rfl) rfl E6 rfl) ?_
 refine B3 rfl rfl (B5 2 rfl F4 rfl D2 (A0 rfl) rfl) ?_
 refine B3 rfl rfl (B2 0 rfl (A0 rfl) rfl E6 rfl) ?_
 refine B3 rfl rfl (D8 rfl Tryz.call105 rfl (AA0 _ _) (A8 (A0 rfl) (A8 (A0 rfl) C8))) ?_
 refine B3 rfl rfl (W4 rfl Tryz.underlying117 B9 Tryz.zeroValue3 rfl rfl rfl rfl (M8 (A0 rfl) (P0 _ _) (M8 (A0 rfl) (P0 _ _) (M8 (A0 rfl) (P0 _ _) S7))) rfl rfl) ?_
 refine B3 rfl rfl (D8 rfl Tryz.call103 rfl (Ap8 [_, _, _]) (A8 (A0 rfl) C8)) ?_
 refine B3 rfl rfl (A7 rfl (A0 rfl)) ?_
 refine O4 ?_
 refine B8 ?_
 exact E4 rfl (B7 rfl (by first | rfl | (refine congrArg AV.bool ?_; simp_all; done)))
theorem q8 (a b : TFeedItem) : FSpec Tryz.prog 109 [AV.agg a.cs, AV.agg b.cs] (AV.bool (l23Ahead a b)) := by
 refine D0 Tryz.func109 rfl Tryz.ntmps109 rfl ?_
 refine A3 (A2 ?_)
 refine I6 rfl rfl rfl rfl (A0 rfl) ?_
 intro b2
 refine I6 rfl rfl rfl rfl (A0 rfl) ?_
 intro b3
 refine A1 rfl (A7 rfl E2) ?_
 refine A4 (A3 (A3 (A2 ?_)))
 refine A1 rfl (B5 0 rfl F4 rfl B9 (A0 rfl) rfl) ?_
 refine A1 rfl (B2 1 rfl (A0 rfl) rfl D1 rfl) ?_
 refine A1 rfl (B5 0 rfl F4 rfl B9 (A0 rfl) rfl) ?_
 refine A1 rfl (B2 0 rfl (A0 rfl) rfl D1 rfl) ?_
 refine A1 rfl (S2 rfl (A0 rfl) (A0 rfl)) ?_
 refine A4 ?_
 refine C0 (A0 rfl) ?_ ?_
 ·intro h9
  have k9 := N8 h9; try simp only [A6] at k9
  refine A3 (A2 ?_)
  refine A1 rfl (B5 0 rfl F4 rfl B9 (A0 rfl) rfl) ?_
  refine A1 rfl (B2 1 rfl (A0 rfl) rfl D1 rfl) ?_
  refine A1 rfl (B5 0 rfl F4 rfl B9 (A0 rfl) rfl) ?_
  refine A1 rfl (B2 0 rfl (A0 rfl) rfl D1 rfl) ?_
  refine A1 rfl (F7 rfl (A0 rfl) (A0 rfl)) ?_
  refine B1 rfl ?_
  refine A4 ?_
  refine B8 ?_
  exact E4 rfl (B7 rfl (by exact congrArg AV.bool (by unfold l23Ahead; simp_all)))
 intro h9
 have k9 := J4 h9; try simp only [A6] at k9
 refine C1 (A3 (A3 (A2 ?_)))
 refine A1 rfl (B5 1 rfl F4 rfl B9 (A0 rfl) rfl) ?_
 refine A1 rfl (B2 1 rfl (A0 rfl) rfl D1 rfl) ?_
 refine A1 rfl (B5 1 rfl F4 rfl B9 (A0 rfl) rfl) ?_
 refine A1 rfl (B2 0 rfl (A0 rfl) rfl D1 rfl) ?_
 refine A1 rfl (S2 rfl (A0 rfl) (A0 rfl)) ?_
 refine A4 ?_
 refine C0 (A0 rfl) ?_ ?_
 ·intro h19
  have k19 := N8 h19; try simp only [A6] at k19
  refine A3 (A2 ?_)
  refine A1 rfl (B5 1 rfl F4 rfl B9 (A0 rfl) rfl) ?_
  refine A1 rfl (B2 1 rfl (A0 rfl) rfl D1 rfl) ?_
  refine A1 rfl (B5 1 rfl F4 rfl B9 (A0 rfl) rfl) ?_
  refine A1 rfl (B2 0 rfl (A0 rfl) rfl D1 rfl) ?_
  refine A1 rfl (F7 rfl (A0 rfl) (A0 rfl)) ?_
  refine B1 rfl ?_
  refine A4 ?_
  refine B8 ?_
  exact E4 rfl (B7 rfl (by exact congrArg AV.bool (by unfold l23Ahead; simp_all)))
 intro h19
 have k19 := J4 h19; try simp only [A6] at k19
 refine C1 (A3 (A2 ?_))
 refine A1 rfl (B5 2 rfl F4 rfl D2 (A0 rfl) rfl) ?_
 refine A1 rfl (B2 1 rfl (A0 rfl) rfl E6 rfl) ?_
 refine A1 rfl (B5 2 rfl F4 rfl D2 (A0 rfl) rfl) ?_
 refine A1 rfl (B2 0 rfl (A0 rfl) rfl E6 rfl) ?_
 refine A1 rfl (w_slss rfl (A0 rfl) (A0 rfl)) ?_
 refine B1 rfl ?_
 refine A4 ?_
 refine B8 ?_
 exact E4 rfl (B7 rfl (by exact congrArg AV.bool (by unfold l23Ahead; simp_all)))
theorem Ai7 (l : List TFeedItem) : FSpec Tryz.prog 65 [AV.list 5 (l.map TFeedItem.cs)] (AV.bool (isFeed l)) := by
 refine D0 Tryz.func65 rfl Tryz.ntmps65 rfl ?_
 refine M6 (t := 0) rfl fun hl => ?_
 try simp only [A6] at hl
 refine A3 (A2 ?_)
 refine A1 rfl (A7 rfl E2) ?_
 refine A4 (A3 (A3 (A2 ?_)))
 refine A5 rfl ?_
 refine A1 rfl (E7 rfl E5 (A0 rfl)) ?_
 refine A1 rfl (C4 rfl B4) ?_
 refine A4 (C3 ?_)
 refine G4 [(0, _), (5, _)] _ (fun (i : Nat) => i ≤ l.length ∧ adj (fun a b => !decide (0 ≤ compareItems a b)) l = adj (fun a b => !decide (0 ≤ compareItems a b)) (l.drop (i - 1))) (fun (i : Nat) => []) (fun (i : Nat) => [(6, AV.int i)]) (fun (i : Nat) => l.length - i) (0) ?_ (G6 ⟨rfl, rfl, rfl, trivial⟩) ?_
 ·exact ⟨Nat.zero_le _, rfl⟩
 intro i hinv
 refine A3 (A2 ?_)
 refine A1 rfl (F7 rfl (A0 rfl) (A0 rfl)) ?_
 refine A4 (A3 ?_)
 refine C0 (A0 rfl) ?_ ?_
 ·intro h7
  have k7 := of_decide_eq_true h7; try simp only [A6] at k7
  have hlt : i < l.length := by omega
  obtain ⟨x, hx⟩ := get_some hlt
  obtain ⟨y, hy⟩ := get_some (show i - 1 < l.length by omega)
  refine C1 (A3 (C3 (A3 (A2 ?_))))
  refine A5 rfl ?_
  refine B1 rfl ?_
  refine A4 (A3 ?_)
  refine H7 (by kernel_rfl) (by kernel_rfl) rfl ?_
  refine B3 rfl rfl (C4 rfl (A0 rfl)) ?_
  refine B3 rfl rfl (S4 rfl (A0 rfl) B4) ?_
  refine B3 rfl rfl (C4 rfl (A0 rfl)) ?_
  refine D7 rfl (O9 rfl rfl rfl) (fun hc => C4 rfl (A0 rfl)) ?_
  refine D7 rfl (O9 rfl rfl rfl) (fun hc => C4 rfl (A0 rfl)) ?_
  refine D7 rfl (O9 rfl rfl rfl) (fun hc => O8 rfl (A9 rfl hc) B4 (by first | omega | ((try simp only [D3, B0, szR] at *); omega) | (have hc2 := hc; simp only [P3, beq_iff_eq, bne_iff_ne, A6, F8] at hc2; omega))) ?_
  refine D7 rfl (O9 rfl rfl rfl) (fun hc => N5 rfl E5 G0 (A9 rfl hc) (A9 rfl hc) (by have := of_decide_eq_true hc; omega) (by have := of_decide_eq_true hc; rw [show ((i : Int) - 1).toNat = i - 1 by omega]; simp only [List.getElem?_map, hy, Option.map_some]; try rfl)) ?_
  refine D7 rfl (O9 rfl rfl rfl) (fun hc => H0 rfl (A9 rfl hc) P6 G0) ?_
  refine D7 rfl (O9 rfl rfl rfl) (fun hc => C4 rfl (A0 rfl)) ?_
  refine D7 rfl (O9 rfl rfl rfl) (fun hc => C4 rfl (A0 rfl)) ?_
  refine D7 rfl (O9 rfl rfl rfl) (fun hc => N5 rfl E5 G0 (A9 rfl hc) (A9 rfl hc) (by omega) (by simp only [Int.toNat_natCast, List.getElem?_map, hx, Option.map_some]; try rfl)) ?_
  refine D7 rfl (O9 rfl rfl rfl) (fun hc => H0 rfl (A9 rfl hc) P6 G0) ?_
  refine D7 rfl (O9 rfl rfl rfl) (fun hc => D8 rfl Tryz.call64 rfl (AI8 _ _) (A8 (A9 rfl hc) (A8 (A9 rfl hc) C8))) ?_
  refine D7 rfl (O9 rfl rfl rfl) (fun hc => X3 rfl (A9 rfl hc) B4) ?_
  refine B3 rfl rfl (I1 rfl (A0 rfl) (F6 rfl)) ?_
  refine O4 ?_
  refine C0 (A0 rfl) ?_ ?_
  ·intro h23
   have hfin : isFeed l = false := by unfold isFeed; simp only [Bool.and_eq_true, decide_eq_true_eq] at h23; rw [hinv.2, d8 hx hy (by omega) (by simp [h23.2]), Bool.false_and]
   refine A3 (A2 ?_)
   refine A1 rfl (A7 rfl E2) ?_
   refine A4 ?_
   refine B8 ?_
   exact E4 rfl (B7 rfl (by first | exact congrArg AV.bool hfin.symm | exact congrArg AV.bool (by unfold isFeed; rw [hinv.2, U4 hge]; simp)))
  intro h23
  refine C1 (A2 ?_)
  refine A1 rfl (E9 rfl (A0 rfl) B4 (by first | omega | (simp only [D3, B0, szR] at *; omega))) ?_
  refine A5 rfl ?_
  refine A4 ?_
  refine H6 i (i + 1) ?_ ?_ (G6 ⟨rfl, rfl, rfl, trivial⟩)
  ·exact ⟨by omega, by rw [hinv.2]; exact d7 hx hy (fun h0 => by simp_all)⟩
  omega
 intro h7
 have k7 := of_decide_eq_false h7; try simp only [A6] at k7
 have hge : l.length ≤ i := by omega
 refine F1 ?_
 refine A3 (A2 ?_)
 refine A5 rfl ?_
 refine A1 rfl (E7 rfl E5 (A0 rfl)) ?_
 refine A1 rfl (S3 rfl (A0 rfl) B4) ?_
 refine B1 rfl ?_
 refine A4 ?_
 refine B8 ?_
 exact E4 rfl (B7 rfl (by first | exact congrArg AV.bool hfin.symm | exact congrArg AV.bool (by unfold isFeed; rw [hinv.2, U4 hge]; simp)))
theorem AF9 (l : List TFeedItem) (hs : sizeL TFeedItem.size l ≤ 1048576) : FSpec Tryz.prog 68 [AV.list 5 (l.map TFeedItem.cs)] (AV.bool (l23Feed l)) := by
 refine D0 Tryz.func68 rfl Tryz.ntmps68 rfl ?_
 refine M6 (t := 0) rfl fun hl => ?_
 try simp only [A6] at hl
 refine A3 (A2 ?_)
 refine A1 rfl (A7 rfl E2) ?_
 refine A4 (A3 (A3 (A2 ?_)))
 refine A1 rfl (A7 rfl B4) ?_
 refine A4 (C3 ?_)
 refine G4 [(0, _)] _ (fun (i : Nat) => i ≤ l.length ∧ (l.all l23Good && adj l23Ahead l) = ((l.drop i).all l23Good && adj l23Ahead (l.drop (i - 1)))) (fun (i : Nat) => []) (fun (i : Nat) => [(3, AV.int i)]) (fun (i : Nat) => l.length - i) (0) ?_ (G6 ⟨rfl, rfl, trivial⟩) ?_
 ·exact ⟨Nat.zero_le _, rfl⟩
 intro i hinv
 refine A3 (A3 (A2 ?_))
 refine A5 rfl ?_
 refine A5 rfl ?_
 refine A1 rfl (E7 rfl E5 (A0 rfl)) ?_
 refine A1 rfl (F7 rfl (A0 rfl) (A0 rfl)) ?_
 refine A5 rfl ?_
 refine D4 rfl (fun hc => C4 rfl (A0 rfl)) ?_
 refine D4 rfl (fun hc => S3 rfl (A9 rfl hc) B4) ?_
 refine A1 rfl (I1 rfl (A0 rfl) (F6 rfl)) ?_
 refine A4 ?_
 refine C0 (A0 rfl) ?_ ?_
 ·intro h11
  simp only [Bool.and_eq_true, decide_eq_true_eq, A6] at h11
  have hlt : i < l.length := by omega
  obtain ⟨x, hx⟩ := get_some hlt
  obtain ⟨y, hy⟩ := get_some (show i - 1 < l.length by omega)
  have hsx : x.size ≤ 1048576 := Nat.le_trans (Q1 hx) hs
  refine C1 (A3 (C3 (A3 ?_)))
  refine H7 (by kernel_rfl) (by kernel_rfl) rfl ?_
  refine B3 rfl rfl (C4 rfl (A0 rfl)) ?_
  refine B3 rfl rfl (C4 rfl (A0 rfl)) ?_
  refine B3 rfl rfl (N5 rfl E5 G0 (A0 rfl) (A0 rfl) (by omega) (by simp only [Int.toNat_natCast, List.getElem?_map, hx, Option.map_some]; try rfl)) ?_
  refine B3 rfl rfl (H0 rfl (A0 rfl) P6 G0) ?_
  refine B3 rfl rfl (D8 rfl Tryz.call108 rfl (Ac2 _ (by assumption)) (A8 (A0 rfl) C8)) ?_
  refine B3 rfl rfl (J3 rfl (A0 rfl)) ?_
  refine B3 rfl rfl (C4 rfl (A0 rfl)) ?_
  refine D7 rfl (G8 rfl rfl rfl) (fun hc => C4 rfl (A0 rfl)) ?_
  refine D7 rfl (G8 rfl rfl rfl) (fun hc => S4 rfl (A9 rfl hc) B4) ?_
  refine D7 rfl (G8 rfl rfl rfl) (fun hc => C4 rfl (A9 rfl hc)) ?_
  refine D7 rfl (D9 rfl rfl rfl) (fun hc => C4 rfl (A0 rfl)) ?_
  refine D7 rfl (D9 rfl rfl rfl) (fun hc => C4 rfl (A0 rfl)) ?_
  refine D7 rfl (D9 rfl rfl rfl) (fun hc => O8 rfl (A9 rfl hc) B4 (by first | omega | ((try simp only [D3, B0, szR] at *); omega) | (have hc2 := hc; simp only [P3, beq_iff_eq, bne_iff_ne, A6, F8] at hc2; omega))) ?_
  refine D7 rfl (D9 rfl rfl rfl) (fun hc => N5 rfl E5 G0 (A9 rfl hc) (A9 rfl hc) (by have := of_decide_eq_true (Aa5 hc); omega) (by have := of_decide_eq_true (Aa5 hc); rw [show ((i : Int) - 1).toNat = i - 1 by omega]; simp only [List.getElem?_map, hy, Option.map_some]; try rfl)) ?_
  refine D7 rfl (D9 rfl rfl rfl) (fun hc => H0 rfl (A9 rfl hc) P6 G0) ?_
  refine D7 rfl (D9 rfl rfl rfl) (fun hc => C4 rfl (A0 rfl)) ?_
  refine D7 rfl (D9 rfl rfl rfl) (fun hc => C4 rfl (A0 rfl)) ?_
  refine D7 rfl (D9 rfl rfl rfl) (fun hc => N5 rfl E5 G0 (A9 rfl hc) (A9 rfl hc) (by omega) (by simp only [Int.toNat_natCast, List.getElem?_map, hx, Option.map_some]; try rfl)) ?_
  refine D7 rfl (D9 rfl rfl rfl) (fun hc => H0 rfl (A9 rfl hc) P6 G0) ?_
  refine D7 rfl (D9 rfl rfl rfl) (fun hc => D8 rfl Tryz.call109 rfl (q8 _ _) (A8 (A9 rfl hc) (A8 (A9 rfl hc) C8))) ?_
  refine D7 rfl (D9 rfl rfl rfl) (fun hc => J3 rfl (A9 rfl hc)) ?_
  refine D7 rfl (G8 rfl rfl rfl) (fun hc => I1 rfl (A9 rfl hc) (O2 rfl hc)) ?_
  refine B3 rfl rfl (P4 rfl (A0 rfl) (F6 rfl)) ?_
  refine O4 ?_
  refine C0 (A0 rfl) ?_ ?_
  ·intro h36
   have hfin : (l.all l23Good && adj l23Ahead l) = false := by rw [hinv.2, drop_some hx, List.all_cons]; cases hg : l23Good x with | false => simp | true => (simp only [hg, Bool.not_true, Bool.false_or, Bool.and_eq_true, decide_eq_true_eq, Bool.not_eq_true'] at h36; rw [d8 hx hy (by omega) h36.2]; simp)
   refine A3 (A2 ?_)
   refine A1 rfl (A7 rfl E2) ?_
   refine A4 ?_
   refine B8 ?_
   exact E4 rfl (B7 rfl (by first | exact congrArg AV.bool (by unfold l23Feed; rw [hfin]; rfl) | exact congrArg AV.bool (by unfold l23Feed; cases hge with | inl h => (rw [hinv.2, U4 h, List.drop_eq_nil_of_le h]; simp) | inr h => (rw [show decide ((l.length : Int) ≤ 400) = false by simp; omega]; simp; omega))))
  intro h36
  refine C1 (A2 ?_)
  refine A5 rfl ?_
  refine A1 rfl (E9 rfl (A0 rfl) B4 (by first | omega | (simp only [D3, B0, szR] at *; omega))) ?_
  refine B1 rfl ?_
  refine A4 ?_
  refine H6 i (i + 1) ?_ ?_ (G6 ⟨rfl, rfl, trivial⟩)
  ·exact ⟨by omega, by rw [hinv.2, drop_some hx, List.all_cons, d7 hx hy (fun h0 => by simp_all), show l23Good x = true by simp_all, Bool.true_and]⟩
  omega
 intro h11
 have hge : l.length ≤ i ∨ 400 < l.length := by simp only [Bool.and_eq_false_iff, decide_eq_false_iff_not, A6] at h11; omega
 refine F1 ?_
 refine A3 (A2 ?_)
 refine A5 rfl ?_
 refine A1 rfl (E7 rfl E5 (A0 rfl)) ?_
 refine A1 rfl (S3 rfl (A0 rfl) B4) ?_
 refine B1 rfl ?_
 refine A4 ?_
 refine B8 ?_
 exact E4 rfl (B7 rfl (by first | exact congrArg AV.bool (by unfold l23Feed; rw [hfin]; rfl) | exact congrArg AV.bool (by unfold l23Feed; cases hge with | inl h => (rw [hinv.2, U4 h, List.drop_eq_nil_of_le h]; simp) | inr h => (rw [show decide ((l.length : Int) ≤ 400) = false by simp; omega]; simp; omega))))
end Go.Proofs.YtkegepoihkhihaaGreat

namespace Go.Proofs.YtkegepoihkhihaaGreat
open Go Go.Sort Go.Shelf Go.RowKit
theorem Ac3 (x : Int) (W : World) : Calls Tryz.prog 159 #[.int .i64 x] W fun e w' => e = .returned (.bool false) ∧ w' = W := by
  go_enter Tryz.func159, Tryz.ntmps159
  go_wp2
  go_ret
  exact ⟨by simp, rfl⟩
theorem Ac4 (x : ByteArray) (W : World) : Calls Tryz.prog 160 #[.string x] W fun e w' => e = .returned (.bool false) ∧ w' = W := by
  go_enter Tryz.func160, Tryz.ntmps160
  go_wp2
  go_ret
  exact ⟨by simp, rfl⟩
set_option maxHeartbeats 1000000 in
theorem AG0 (x y : Int) (W : World) : Calls Tryz.prog 104 #[.int .i64 x, .int .i64 y] W fun e w' => e = .returned (.int .i64 (M.cmpInt x y)) ∧ w' = W := by
  go_enter Tryz.func104, Tryz.ntmps104
  go_wp2_with (go_at_call 159; refine (Ac3 _ _).mono ?_; rintro e w' ⟨rfl, hw⟩; rw [hw])
  all_goals (go_ret; refine ⟨?_, rfl⟩; unfold M.cmpInt; (repeat' split) <;> first | rfl | (exfalso; omega))
set_option maxHeartbeats 1000000 in
theorem Ac5 (x y : List UInt8) (W : World) : Calls Tryz.prog 105 #[.string ⟨x.toArray⟩, .string ⟨y.toArray⟩] W fun e w' => e = .returned (.int .i64 (M.cmpStr x y)) ∧ w' = W := by
  have htri := M.bytesLess_tri y x
  go_enter Tryz.func105, Tryz.ntmps105
  go_wp2_with (go_at_call 160; refine (Ac4 _ _).mono ?_; rintro e w' ⟨rfl, hw⟩; rw [hw])
  all_goals (go_ret; refine ⟨?_, rfl⟩; unfold M.cmpStr; simp_all)
set_option maxHeartbeats 1000000 in
theorem Ai8 (x y z : Int) (b : Nat) (W : World) (h0 : W.cell? ⟨b, 0, none⟩ = some (.int .i64 x)) (h1 : W.cell? ⟨b, 1, none⟩ = some (.int .i64 y)) (h2 : W.cell? ⟨b, 2, none⟩ = some (.int .i64 z)) :
    Calls Tryz.prog 103 #[.slice (some ⟨b, 0, none⟩) 3 3] W fun e w' => e = .returned (.int .i64 (M.orInt [x, y, z])) ∧ w' = W := by
  have hc : ∀ k : Nat, k < 3 → W.cell? ⟨b, 0 + k, none⟩ = some (.int .i64 ([x, y, z].getD k 0)) := fun k hk => by
    rcases k with _ | _ | _ | k
    · exact h0
    · exact h1
    · exact h2
    · omega
  obtain ⟨l, hl⟩ : ∃ l, [x, y, z] = l := ⟨_, rfl⟩
  have hlen : l.length = 3 := by rw [← hl]; rfl
  rw [hl] at hc ⊢
  obtain ⟨r, hres⟩ : ∃ r, M.orInt l = r := ⟨_, rfl⟩
  rw [hres]
  go_enter Tryz.func103, Tryz.ntmps103
  go_wp2
  go_loop [8] (fun i => ∃ k : Nat, k ≤ 3 ∧ i = .int .i64 k ∧ r = M.orInt (l.drop k)) (fun i => 3 - (intOf i).toNat)
  case atStart => exact ⟨0, Nat.zero_le _, rfl, hres.symm⟩
  case round =>
    obtain ⟨k, hk, rfl, hr⟩ := hrel
    have hcell : (k : Int) < 3 → W.cell? ⟨b, k, none⟩ = some (.int .i64 (l.getD k 0)) := fun h => by have := hc k (by omega); rwa [Nat.zero_add] at this
    have hstep : (k : Int) < 3 → M.orInt (l.drop k) = if l.getD k 0 = 0 then M.orInt (l.drop (k + 1)) else l.getD k 0 := fun h => by
      have hk3 : k < l.length := by omega
      rw [AV.drop_some (List.getElem?_eq_getElem hk3), M.orInt, List.getD_eq_getElem?_getD, List.getElem?_eq_getElem hk3]; rfl
    have hend : ¬ (k : Int) < 3 → M.orInt (l.drop k) = 0 := fun h => by rw [List.drop_eq_nil_of_le (by omega)]; rfl
    generalize l.getD k 0 = v at hcell hstep
    clear hc h0 h1 h2
    obtain ⟨t, ht⟩ : ∃ t, M.orInt (l.drop k) = t := ⟨_, rfl⟩
    rw [ht] at hr hstep hend
    clear hres
    subst hr
    go_wp2
    · exfalso; have h9 : (v != 0) = true := by assumption
      simp_all
    · go_ret; exact ⟨rfl, rfl⟩
    case roundEnd =>
      have h8 : (k : Int) < 3 := by assumption
      have h9 : (v != 0) = false := by assumption
      have hv : v = 0 := by simpa using h9
      refine ⟨⟨k + 1, by omega, by simp, ?_⟩, by simp [intOf]; omega⟩
      rw [hstep h8, if_pos hv]
    · go_ret; exact ⟨rfl, rfl⟩
def encItem (x : Go.M.TFeedItem) : List Value := [.int .i64 x.Time, .int .i64 x.Group, .string ⟨x.Key.toArray⟩, .string ⟨x.Val.toArray⟩, .bool x.Gone]
theorem Z7 (W : World) (vs : Array Value) (t : TypeId) (j : Nat) : (W.alloc (.cells vs t)).cell? ⟨W.heap.size, j, none⟩ = vs[j]? := by
  unfold World.cell?
  dsimp only
  rw [show (W.alloc (.cells vs t)).heap[W.heap.size]? = some (.cells vs t) from heap_alloc_new W _]
  rfl
theorem AC3 (W : World) (o : Obj) (k j : Nat) (h : k < W.heap.size) : (W.alloc o).cell? ⟨k, j, none⟩ = W.cell? ⟨k, j, none⟩ := by
  unfold World.cell?
  dsimp only
  rw [show (W.alloc o).heap[k]? = W.heap[k]? from Below.heap_alloc W o k h]
theorem f9 (W : World) (o : Obj) : (W.alloc o).heap.size = W.heap.size + 1 := by simp
theorem Au2 (W w2 : World) (a b : Go.M.TFeedItem) (t : TypeId) (h : (W.alloc (.cells #[.int .i64 a.Time, .int .i64 a.Group, .string ⟨a.Key.toArray⟩, .string ⟨a.Val.toArray⟩, .bool a.Gone] t)).alloc (.cells #[.int .i64 b.Time, .int .i64 b.Group, .string ⟨b.Key.toArray⟩, .string ⟨b.Val.toArray⟩, .bool b.Gone] t) = w2) :
    w2.cell? ⟨W.heap.size, 0, none⟩ = some (.int .i64 a.Time) ∧ w2.cell? ⟨W.heap.size, 1, none⟩ = some (.int .i64 a.Group) ∧ w2.cell? ⟨W.heap.size, 2, none⟩ = some (.string ⟨a.Key.toArray⟩) ∧
    w2.cell? ⟨W.heap.size + 1, 0, none⟩ = some (.int .i64 b.Time) ∧ w2.cell? ⟨W.heap.size + 1, 1, none⟩ = some (.int .i64 b.Group) ∧ w2.cell? ⟨W.heap.size + 1, 2, none⟩ = some (.string ⟨b.Key.toArray⟩) ∧
    ∃ os, w2 = grow W os := by
  subst h
  refine ⟨?_, ?_, ?_, ?_, ?_, ?_, _, by rw [alloc_eq_grow, alloc_eq_grow, grow_grow]⟩
  · rw [AC3 _ _ _ _ (by rw [f9]; omega), Z7]; rfl
  · rw [AC3 _ _ _ _ (by rw [f9]; omega), Z7]; rfl
  · rw [AC3 _ _ _ _ (by rw [f9]; omega), Z7]; rfl
  · rw [← f9 W (.cells #[.int .i64 a.Time, .int .i64 a.Group, .string ⟨a.Key.toArray⟩, .string ⟨a.Val.toArray⟩, .bool a.Gone] t), Z7]; rfl
  · rw [← f9 W (.cells #[.int .i64 a.Time, .int .i64 a.Group, .string ⟨a.Key.toArray⟩, .string ⟨a.Val.toArray⟩, .bool a.Gone] t), Z7]; rfl
  · rw [← f9 W (.cells #[.int .i64 a.Time, .int .i64 a.Group, .string ⟨a.Key.toArray⟩, .string ⟨a.Val.toArray⟩, .bool a.Gone] t), Z7]; rfl
theorem Ap9 (W : World) (x y z : Int) (t : TypeId) : (W.alloc (.cells #[.int .i64 x, .int .i64 y, .int .i64 z] t)).cell? ⟨W.heap.size, 0, none⟩ = some (.int .i64 x) ∧ (W.alloc (.cells #[.int .i64 x, .int .i64 y, .int .i64 z] t)).cell? ⟨W.heap.size, 1, none⟩ = some (.int .i64 y) ∧ (W.alloc (.cells #[.int .i64 x, .int .i64 y, .int .i64 z] t)).cell? ⟨W.heap.size, 2, none⟩ = some (.int .i64 z) := by
  refine ⟨?_, ?_, ?_⟩ <;> (rw [Z7]; rfl)
set_option maxHeartbeats 4000000 in
theorem AG1 (a b : Go.M.TFeedItem) (W : World) : Calls Tryz.prog 64 #[.agg (encItem a).toArray, .agg (encItem b).toArray] W fun e w' => e = .returned (.int .i64 (M.compareItems a b)) ∧ ∃ q os', w' = grow (W.drewN q) os' := by
  obtain ⟨r, hr⟩ : ∃ r, M.compareItems a b = r := ⟨_, rfl⟩
  have h1 := AG0 a.Time b.Time
  have h2 := AG0 a.Group b.Group
  have h3 := Ac5 a.Key b.Key
  have hr2 : M.orInt [M.cmpInt a.Time b.Time, M.cmpInt a.Group b.Group, M.cmpStr a.Key b.Key] = r := hr
  rw [hr]
  clear hr
  generalize M.cmpInt a.Time b.Time = x at h1 hr2
  generalize M.cmpInt a.Group b.Group = y at h2 hr2
  generalize M.cmpStr a.Key b.Key = z at h3 hr2
  unfold encItem
  go_enter Tryz.func64, Tryz.ntmps64
  go_wp2
  generalize hw2 : (W.alloc (.cells #[.int .i64 a.Time, .int .i64 a.Group, .string ⟨a.Key.toArray⟩, .string ⟨a.Val.toArray⟩, .bool a.Gone] 63)).alloc (.cells #[.int .i64 b.Time, .int .i64 b.Group, .string ⟨b.Key.toArray⟩, .string ⟨b.Val.toArray⟩, .bool b.Gone] 63) = w2
  obtain ⟨fa0, fa1, fa2, fb0, fb1, fb2, hex⟩ := Au2 W w2 a b 63 hw2
  clear hw2
  refine wp_region_still_tail 15 (by kernel_rfl) (by kernel_rfl) ?_
  simp only [w5, List.take_zero, droZs, List.drop_zero]
  have hex3 : ∃ os, w2.drew = grow (W.drewN 1) os := by
    obtain ⟨os, h⟩ := hex
    exact ⟨os, by rw [h]; rfl⟩
  clear hex
  repeat still_step
  still_call (h1 _)
  repeat still_step
  still_call (h2 _)
  repeat still_step
  still_call (h3 _)
  repeat still_step
  try refine wpStill_nil ?_
  clear fa0 fa1 fa2 fb0 fb1 fb2
  change wpList _ _ _ _ _ w2.drew
  generalize w2.drew = w3 at hex3 ⊢
  have h4 := Ap9 w3 x y z 3
  have h5 := Ai8 x y z w3.heap.size (w3.alloc (.cells #[.int .i64 x, .int .i64 y, .int .i64 z] 3)) h4.1 h4.2.1 h4.2.2
  rw [hr2] at h5
  clear h4 hr2 h1 h2 h3
  go_wp2_with (go_at_call 103; refine h5.mono ?_; rintro e w' ⟨rfl, hw⟩; rw [hw])
  go_ret
  obtain ⟨os, h⟩ := hex3
  exact ⟨rfl, 1, os ++ #[_], by rw [h, alloc_eq_grow, grow_grow]⟩
end Go.Proofs.YtkegepoihkhihaaGreat

namespace Go.AV
open Go.Sort

theorem Ac6 {R : RHeap} {w w' : World} {v : Value} {g : Nat} {t : TypeId} {sz : Nat} {es es' : List (List AV)} {xs : List Value} (hb : v.ownBlock = some g) (hr : RLe R w) (hR : R g = none) (hg : w.grownBy w' (some g))
    (hown : w'.ownsRow 0 t sz v es'.length xs) (hd : DenC R xs es'.flatten) (hsz : ∀ e ∈ es', e.length = sz) :
    Core (blksOf [.arr v t sz es]) w R [.arr v t sz es'] R w' := by
  refine ⟨hg.os, hg.tape, hg.output, hg.size, fun k hk hG => hg.block k hk fun e => hG ⟨_, List.mem_singleton.2 rfl, ?_⟩, fun b o hbo => ?_, fun _ _ => rfl, fun o ho => ?_, fun o ho b e => ?_, ?_⟩
  · injection e with e; subst e; exact hb
  · have h1 := hr b o hbo
    have hlt : b < w.heap.size := (Array.getElem?_eq_some_iff.1 h1).1
    rw [hg.block b hlt fun e => by injection e with e; subst e; rw [hR] at hbo; cases hbo]; exact h1
  · rw [List.mem_singleton.1 ho]
    exact ⟨fun b e => by rw [hb] at e; injection e with e; subst e; exact hR, hsz, xs, hown, hd⟩
  · rw [List.mem_singleton.1 ho] at e
    exact .inr ⟨_, List.mem_singleton.2 rfl, e⟩
  · simp [Own.blk, hb]
theorem AV2 {R : RHeap} {w : World} {o : Own} (hr : RLe R w) (ho : Own.ok R w o) : Core (blksOf [o]) w R [o] R w :=
  ⟨rfl, rfl, rfl, Nat.le_refl _, fun _ _ _ => rfl, hr, fun _ _ => rfl, fun q hq => by rw [List.mem_singleton.1 hq]; exact ho, fun q hq b e => .inr ⟨q, hq, e⟩, by
    simp only [List.filterMap_cons, List.filterMap_nil]
    cases Own.blk o <;> simp⟩
theorem An3 {R : RHeap} {vs ys : List Value} (h : DenC R vs (ys.map AV.is)) : vs = ys := by
  refine List.ext_getElem? fun i => ?_
  have hl := h.1
  rw [A6] at hl
  by_cases hi : i < ys.length
  · have h1 : vs[i]? = some vs[i] := List.getElem?_eq_getElem (by omega)
    have h2 : (ys.map AV.is)[i]? = some (AV.is ys[i]) := by rw [List.getElem?_map, List.getElem?_eq_getElem hi]; rfl
    have h3 := (h.2 i _ _ h1 h2).1
    rw [h1, List.getElem?_eq_getElem hi]
    exact congrArg some h3
  · rw [List.getElem?_eq_none (by omega), List.getElem?_eq_none (by omega)]
theorem An4 {R : RHeap} {ys : List Value} (h : ∀ y ∈ ys, y.oneCell' = true) : DenC R ys (ys.map AV.is) := by
  refine ⟨by rw [A6], fun i v x hv hx => ?_⟩
  rw [List.getElem?_map, hv] at hx
  injection hx with hx; subst hx
  exact ⟨rfl, h v (H5 hv)⟩
theorem AJ2 {α : Type} (c : α → AV) (l : List α) : (l.map fun n => [c n]).flatten = l.map c := by
  induction l with
  | nil => rfl
  | cons x l ih => simp [ih]
theorem An5 {α : Type} {c : α → List AV} {enc : α → List Value} (hc : ∀ x, c x = (enc x).map AV.is) (l : List α) : (l.map c).flatten = ((l.map enc).flatten).map AV.is := by
  induction l with
  | nil => rfl
  | cons x l ih => simp [ih, hc]
section ordered
variable {P : Program} {f : FuncId} {t : TypeId} {α : Type} [Inhabited α]
theorem row_own1 (enc : α → Value) (h1c : ∀ x, (enc x).oneCell' = true) (srt : List α → List α) (hsl : ∀ l, (srt l).length = l.length)
    (h1 : ∀ (blk off cap : Nat) (zs : List α) (w : World), Holds enc w blk off zs.toArray → blk < w.heap.size → zs.length < 4611686018427387904 →
      Calls P f #[.slice (some ⟨blk, off, none⟩) zs.length cap] w fun e w' => e = .returned (.tuple #[]) ∧ ∃ n os, w' = grow (putRow enc (Sort.ahead w n) blk off (srt zs).toArray) os)
    (h0 : ∀ (p : Option Addr) (cap : Nat) (w : World), Calls P f #[.slice p 0 cap] w fun e w' => e = .returned (.tuple #[]) ∧ w' = w)
    (v : Value) (l : List α) (hl : l.length < 4611686018427387904) :
    GSpec P f [AV.is v] [.arr v t 1 (l.map fun n => [AV.is (enc n)])] (fun _ : Unit => True) (fun _ => [.arr v t 1 ((srt l).map fun n => [AV.is (enc n)])]) (fun _ => AV.tup []) := by
  intro R w vs hr hd hok hnd
  have hvs : vs = [v] := by
    obtain ⟨hlen, hval⟩ := hd
    cases vs with
    | nil => simp at hlen
    | cons a r =>
      cases r with
      | nil => have h9 := hval 0 a (AV.is v) rfl rfl; rw [show a = v from h9]
      | cons b r => simp at hlen
  subst hvs
  have ho := hok _ (List.mem_singleton.2 rfl)
  obtain ⟨hR, hsz, xs, hown, hden⟩ := ho
  have hxs : xs = l.map enc := by
    rw [AJ2 (fun n => AV.is (enc n))] at hden
    have h9 : l.map (fun n => AV.is (enc n)) = (l.map enc).map AV.is := by simp
    rw [h9] at hden
    exact An3 hden
  rw [A6] at hown
  rcases hown.2 with ⟨hv, hn⟩ | ⟨g, cap, cur, hv, _, hg, hnc, hcm, hcs, htk⟩
  · have hl0 : l = [] := List.length_eq_zero_iff.1 hn
    subst hv; subst hl0
    have hs0 : srt [] = [] := List.length_eq_zero_iff.1 (hsl [])
    refine (h0 none 0 w).mono ?_
    rintro e w' ⟨rfl, rfl⟩
    refine ⟨(), _, R, trivial, rfl, ⟨[], rfl, DenV.nil _⟩, ?_⟩
    rw [hs0]
    exact AV2 hr (hok _ (List.mem_singleton.2 rfl))
  · subst hv
    have hgl : g < w.heap.size := (Array.getElem?_eq_some_iff.1 hg).1
    rw [Nat.mul_one] at htk hcs
    have hH : Holds enc w g 0 l.toArray := fun j hj => by
      have hj' : j < l.length := by simpa using hj
      have h9 : cur.toList[j]? = some (enc l[j]) := by
        rw [← List.getElem?_take_of_lt hj', htk, hxs, List.getElem?_map, List.getElem?_eq_getElem hj']; rfl
      refine ⟨?_, by simp [World.frozen?, hg]⟩
      simp only [World.cell?, hg, Nat.zero_add]
      simp only [Option.isSome_none, Bool.false_eq_true, if_false]
      rw [← Array.getElem?_toList, h9]
      simp [hj']
    refine (h1 g 0 cap l w hH hgl hl).mono ?_
    rintro e w' ⟨rfl, n, os, rfl⟩
    refine ⟨(), _, R, trivial, rfl, ⟨[], rfl, DenV.nil _⟩, ?_⟩
    have hgb : w.grownBy (grow (putRow enc (Sort.ahead w n) g 0 (srt l).toArray) os) (some g) := by
      refine ⟨rfl, rfl, rfl, by simp, fun k hk hne => ?_⟩
      rw [heap_grow_old _ _ (by simpa using hk)]
      have h9 : g ≠ k := fun e => hne (by rw [e])
      simp [putRow, mapBlock, Sort.ahead, Array.getElem?_modify, h9]
    have hheap : (grow (putRow enc (Sort.ahead w n) g 0 (srt l).toArray) os).heap[g]? = some (.cells (putCells enc 0 (srt l).toArray cur) t (0, 0)) := by
      rw [heap_grow_old _ _ (by simpa using hgl)]
      simp [putRow, mapBlock, Sort.ahead, Array.getElem?_modify, hg, onCells]
    refine Ac6 (g := g) (xs := (srt l).map enc) rfl hr (hR g rfl) hgb ?_ ?_ ?_
    · rw [A6, hsl]
      refine ⟨by simp [hsl], .inr ⟨g, cap, _, rfl, Nat.zero_le _, hheap, hnc, hcm, by simp [putCells, hcs], ?_⟩⟩
      apply List.ext_getElem?
      intro j
      by_cases hj : j < l.length
      · rw [List.getElem?_take_of_lt (by omega), Array.getElem?_toList]
        have h8 : j < (srt l).length := by rw [hsl]; exact hj
        simp [putCells, h8, show j < cur.size by omega]
      · rw [List.getElem?_take_eq_none (by omega), List.getElem?_eq_none (by simp [hsl]; omega)]
    · rw [AJ2 (fun n => AV.is (enc n))]
      have h9 : (srt l).map (fun n => AV.is (enc n)) = ((srt l).map enc).map AV.is := by simp
      rw [h9]
      exact An4 fun y hy => by obtain ⟨x, _, rfl⟩ := List.mem_map.1 hy; exact h1c x
    · intro e he; obtain ⟨x, _, rfl⟩ := List.mem_map.1 he; rfl
end ordered
end Go.AV

set_option linter.unusedSectionVars false
namespace Go.M
open Go.AV
section
variable {α : Type} [Inhabited α]
structure Swo (lt : α → α → Bool) : Prop where
  asym : ∀ a b, lt a b = true → lt b a = false
  ntr : ∀ a b c, lt b a = false → lt c b = false → lt c a = false
def SortedOn (lt : α → α → Bool) (l : List α) (a b : Nat) : Prop := ∀ (i j : Nat) (x y : α), a ≤ i → i < j → j < b → l[i]? = some x → l[j]? = some y → lt y x = false
def InR (l : List α) (a b : Nat) (x : α) : Prop := ∃ i, a ≤ i ∧ i < b ∧ l[i]? = some x
structure Shuf (l l' : List α) (a b : Nat) : Prop where
  len : l'.length = l.length
  perm : l'.Perm l
  out : ∀ i, i < a ∨ b ≤ i → l'[i]? = l[i]?
  inn : ∀ x, InR l' a b x → InR l a b x
theorem Shuf.refl (l : List α) (a b : Nat) : Shuf l l a b := ⟨rfl, List.Perm.refl _, fun _ _ => rfl, fun _ h => h⟩
theorem Shuf.trans {l l' l'' : List α} {a b : Nat} (h : Shuf l l' a b) (k : Shuf l' l'' a b) : Shuf l l'' a b :=
  ⟨k.len.trans h.len, k.perm.trans h.perm, fun i hi => (k.out i hi).trans (h.out i hi), fun x hx => h.inn x (k.inn x hx)⟩
end
end Go.M

namespace Go.AV
section
variable {P : Program} {G : Nat → Prop} {n : Nat} {own : List Own}
theorem g6 {t : List Own} {env : List (Nat × AV)} (k : Nat) (h : (own.drop k).Perm t) : Le G n ⟨own, env⟩ ⟨own.take k ++ t, env⟩ :=
  le_perm (by
    have := List.Perm.append_left (own.take k) h
    rw [List.take_append_drop] at this
    exact this)
theorem d9 {t : List Own} : t.Perm (t ++ []) := by rw [List.append_nil]
theorem AL7 {t : List Own} : (t ++ []).Perm t := by rw [List.append_nil]
theorem AO1 {sel rest : List Own} {is : List Nat} (h : pick own is = (sel, rest)) : own.Perm (sel ++ rest) := by
  induction is generalizing own sel rest with
  | nil => unfold pick at h; injection h with h1 h2; subst h1; subst h2; exact List.Perm.refl _
  | cons i is ih =>
    unfold pick at h
    cases hi : own[i]? with
    | none => rw [hi] at h; injection h with h1 h2; subst h1; subst h2; exact List.Perm.refl _
    | some x =>
      rw [hi] at h
      injection h with h1 h2; subst h1; subst h2
      exact (AB8 hi).trans (List.Perm.cons x (ih rfl))
section
variable {o : Oper} {E : EnvF}
end
section
variable {α : Type} {ok : α → Prop} {O : α → List Own} {V : α → AV} {o : Oper}
theorem Au3 {ops : Array Oper} {rs : List Oper} {env : List (Nat × AV)} {K : AState → Prop} {d : Nat} {f : FuncId} {args : Array Operand} {tys : Array TypeId} {ps : List Operand} {xs : List AV} {sel rest : List Own} {own' : α → List Own} (hg : o.guard = none) (ho : o.op = .call { callee := .value (.func f), args := args, argTypes := tys }) (hd : o.dst = some d) (hn : Nat.blt d n = true)
    (hc : ∀ (vs : Array Value) (w : World), (callFunc f vs).run P w = .ok (.enter f vs) w) (hps : args.toList = ps) (hp : own.Perm (sel ++ rest)) (hs : GSpec P f xs sel ok O V) (he : EvL (getv · env) ps xs) (hq : ∀ a, (O a ++ rest).Perm (own' a))
    (k : ∀ a, ok a → ASeq P G n ops rs ⟨own' a, (d, V a) :: env⟩ K) : ASeq P G n ops (o :: rs) ⟨own, env⟩ K :=
  U9 hg fun w0 R0 R a w ⟨h1, h2, h3, h4⟩ => by
    have hcore := d3 h1 hp
    have hden := n0 (o := o) (fun t _ y hy => h2 t y hy) he fun p hp => by simp [ho, Op.operands, Call.operands]; right; rw [← hps] at hp; exact Array.mem_toList_iff.1 hp
    have hrun : (execOp a.eval o).run P w = .ok (.enter f (ps.map a.eval).toArray) w := by
      have hargs : args.map a.eval = (ps.map a.eval).toArray := by rw [← hps]; cases args; simp
      simp only [execOp, ho, resolve, hargs, show a.eval (.func f) = .func (.func f) #[] #[] from rfl]
      simp [Deferred.ofValue, invoke, hc]
    unfold Oper.wp
    rw [hrun, Oper.upon_enter]
    refine (hs R w _ hcore.rle hden (fun q hq => hcore.owned q (List.mem_append_left _ hq)) (T9 hcore).sep).mono fun e w' ⟨x, v, R', e0, e1, e2, e3⟩ => ?_
    subst e1
    have hR := c3 hcore.rle e3.rold
    refine ⟨⟨own' x, (d, V x) :: env⟩, R', k x e0, hR, d3 (s2 hcore e3) (hq x), ?_, by rw [Q7]; exact h3, by rw [O5]; exact h4⟩
    rw [hd]
    exact X4 h2 hR (by rw [h3]; exact Nat.blt_eq.mp hn) e2
theorem e6 {ops : Array Oper} {rs : List Oper} {env : List (Nat × AV)} {K : AState → Prop} {d : Nat} {f : FuncId} {args : Array Operand} {tys : Array TypeId} {ps : List Operand} {xs : List AV} {s1 r1 : List Own} (is : List Nat) (m j : Nat) (B D : List Own) (NT : α → List Own) (hg : o.guard = none) (ho : o.op = .call { callee := .value (.func f), args := args, argTypes := tys }) (hd : o.dst = some d) (hn : Nat.blt d n = true)
    (hc : ∀ (vs : Array Value) (w : World), (callFunc f vs).run P w = .ok (.enter f vs) w) (hps : args.toList = ps) (hp : pick own is = (s1, r1)) (hB : (r1.drop m).Perm (B ++ D)) (hs : GSpec P f xs (s1 ++ B) ok O V) (he : EvL (getv · env) ps xs) (hN : ∀ a, ((O a).drop j ++ D).Perm (NT a))
    (k : ∀ a, ok a → ASeq P G n ops rs ⟨(O a).take j ++ (r1.take m ++ NT a), (d, V a) :: env⟩ K) : ASeq P G n ops (o :: rs) ⟨own, env⟩ K := by
  refine Au3 (sel := s1 ++ B) (rest := r1.take m ++ D) (own' := fun a => (O a).take j ++ (r1.take m ++ NT a)) hg ho hd hn hc hps ?_ hs he (fun a => ?_) k
  · refine (AO1 hp).trans ?_
    have h1 : r1.Perm (r1.take m ++ (B ++ D)) := by
      have := List.Perm.append_left (r1.take m) hB
      rwa [List.take_append_drop] at this
    refine (List.Perm.append_left s1 h1).trans ?_
    rw [List.append_assoc]
    refine List.Perm.append_left s1 ?_
    rw [← List.append_assoc, ← List.append_assoc]
    exact List.Perm.append_right D List.perm_append_comm
  · have h1 : (O a ++ (r1.take m ++ D)).Perm ((O a).take j ++ (r1.take m ++ ((O a).drop j ++ D))) := by
      conv => lhs; rw [← List.take_append_drop j (O a)]
      rw [List.append_assoc]
      refine List.Perm.append_left _ ?_
      rw [← List.append_assoc, ← List.append_assoc]
      exact List.Perm.append_right D List.perm_append_comm
    exact h1.trans (List.Perm.append_left _ (List.Perm.append_left _ (hN a)))
theorem AC4 {fn : Func} {s : AState} {sel rest : List Own} (is : List Nat) (m : Nat) (B D : List Own) (x : α) (hx : ok x) (hp : pick s.own is = (sel, rest)) (hB : (rest.drop m).Perm (B ++ D)) (ho : O x = sel ++ B) (h : ∀ w0 R0 R a w, St G n w0 R0 s R a w → ∃ v, (results fn a.tmps).run P w = .ok v w ∧ (V x).den R v) : RetOkG P G n fn s ok O V := fun w0 R0 R a w hs => by
  obtain ⟨v, h1, h2⟩ := h w0 R0 R a w hs
  refine ⟨x, v, R, hx, h1, h2, RSub.refl _, ?_⟩
  rw [ho]
  refine T9 (b := rest.take m ++ D) (d3 hs.1 ?_)
  refine (AO1 hp).trans ?_
  have h1 : rest.Perm (rest.take m ++ (B ++ D)) := by
    have := List.Perm.append_left (rest.take m) hB
    rwa [List.take_append_drop] at this
  refine (List.Perm.append_left sel h1).trans ?_
  rw [List.append_assoc]
  refine List.Perm.append_left sel ?_
  rw [← List.append_assoc, ← List.append_assoc]
  exact List.Perm.append_right D List.perm_append_comm
end
end
inductive OT where
  | nil
  | pure (i : Nat) (t : OT)
  | e1 (i : Nat) (t : OT)
  | e2 (i : Nat) (t : OT) (j : Nat) (u : OT)
def OT.deep : OT → Nat → Bool
  | .nil, 0 => true
  | .pure _ t, f + 1 => t.deep f
  | .e1 _ t, f + 1 => t.deep f
  | .e2 _ t _ u, f + 1 => t.deep f && u.deep f
  | _, _ => false
def ordT (md : Region.Mode) (ops : Array Oper) (g m : Nat) : OT → Array Bool → Bool
  | .nil, listed => Region.seqB md ops g m listed
  | .pure i r, listed => (Region.ready md ops listed).contains i && Region.free md ops listed i && Nat.blt i m && ordT md ops g m r (listed.setIfInBounds i true)
  | .e1 i r, listed => decide (Region.ready md ops listed = [i]) && Nat.blt i m && ordT md ops g m r (listed.setIfInBounds i true)
  | .e2 i r j u, listed => decide (Region.ready md ops listed = [i, j]) && Nat.blt i m && Nat.blt j m && ordT md ops g m r (listed.setIfInBounds i true) && ordT md ops g m u (listed.setIfInBounds j true)
section
variable {P : Program} {G : Nat → Prop} {n : Nat}
def EffS (P : Program) (G : Nat → Prop) (n : Nat) (Inv : List Own → Prop) (ops : Array Oper) (i : Nat) (env : List (Nat × AV)) (W : List Own) (K : List (Nat × AV) → List Own → Prop) : Prop :=
  ∃ o, ops[i]? = some o ∧ o.guard = none ∧ ∃ (α : Type) (ok : α → Prop) (W' : α → List Own) (V : α → AV), OpE P G n W ops o (getv · env) ok W' V ∧ (∀ a, ok a → Inv (W' a)) ∧ ∀ a, ok a → K (putv o.dst (V a) env) (W' a)
def BT (P : Program) (G : Nat → Prop) (n : Nat) (Inv : List Own → Prop) (ops : Array Oper) : OT → List (Nat × AV) → List Own → (List (Nat × AV) → List Own → Prop) → Prop
  | .nil, env, W, K => K env W
  | .pure i r, env, W, K => ∃ o, ops[i]? = some o ∧ ∃ x, (∀ W', Inv W' → OpA P G n W' ops o (getv · env) x) ∧ BT P G n Inv ops r (putv o.dst x env) W K
  | .e1 i r, env, W, K => EffS P G n Inv ops i env W fun env' W' => BT P G n Inv ops r env' W' K
  | .e2 i r j u, env, W, K => (EffS P G n Inv ops i env W fun env' W' => BT P G n Inv ops r env' W' K) ∧ EffS P G n Inv ops j env W fun env' W' => BT P G n Inv ops u env' W' K
section
variable {ops : Array Oper} {i j : Nat} {o : Oper} {r u : OT} {env : List (Nat × AV)} {W : List Own} {base : List Own} {K : List (Nat × AV) → List Own → Prop} {d : Nat} {x : AV}
theorem bt_nil {Inv : List Own → Prop} (h : K env W) : BT P G n Inv ops .nil env W K := h
theorem S1 (ho : ops[i]? = some o) (hg : o.guard = none) (hd : o.dst = some d) (h : ∀ ext, OpW P G n (base ++ ext) o (getv · env) x) (k : BT P G n (InvX base) ops r ((d, x) :: env) W K) : BT P G n (InvX base) ops (.pure i r) env W K :=
  ⟨o, ho, x, fun W' ⟨ext, e⟩ => by subst e; exact w6 hg (h ext), by rw [hd]; exact k⟩
theorem bt_e1 {Inv : List Own → Prop} (h : EffS P G n Inv ops i env W fun env' W' => BT P G n Inv ops r env' W' K) : BT P G n Inv ops (.e1 i r) env W K := h
theorem eff_s {Inv : List Own → Prop} {α : Type} {ok : α → Prop} {W' : α → List Own} {V : α → AV} (ho : ops[i]? = some o) (hg : o.guard = none) (hd : o.dst = some d) (h : OpE P G n W ops o (getv · env) ok W' V) (hi : ∀ a, ok a → Inv (W' a)) (k : ∀ a, ok a → K ((d, V a) :: env) (W' a)) : EffS P G n Inv ops i env W K :=
  ⟨o, ho, hg, α, ok, W', V, h, hi, fun a ha => by rw [hd]; exact k a ha⟩
end
end
section
variable {T X : Type} {cs : T → List AV} {ocs : T → X → List AV} {ow : T → X → List Own}
def nrows (ocs : T → X → List AV) (l : List T) (xs : List X) : List (List AV) := List.zipWith ocs l xs
def nin (ow : T → X → List Own) (l : List T) (xs : List X) : List Own := (List.zipWith ow l xs).flatten
theorem X0 {l : List T} {xs : List X} (h : xs.length = l.length) : (nrows ocs l xs).length = l.length := by unfold nrows; rw [List.length_zipWith]; omega
theorem AV3 {l : List T} {xs : List X} {i : Nat} {p : T} {x : X} (hp : l[i]? = some p) (hx : xs[i]? = some x) : (nrows ocs l xs)[i]? = some (ocs p x) := by
  unfold nrows; rw [List.getElem?_zipWith, hp, hx]
theorem Aq0 {l : List T} {xs : List X} {p : T} {x : X} (h : xs.length = l.length) : nrows ocs (l ++ [p]) (xs ++ [x]) = nrows ocs l xs ++ [ocs p x] := by
  unfold nrows; rw [List.zipWith_append h.symm]; rfl
theorem nin_snoc {l : List T} {xs : List X} {p : T} {x : X} (h : xs.length = l.length) : (ow p x ++ nin ow l xs).Perm (nin ow (l ++ [p]) (xs ++ [x])) := by
  unfold nin; rw [List.zipWith_append h.symm, List.flatten_append]
  refine List.perm_append_comm.trans ?_
  simp
theorem AV4 {l : List T} {i : Nat} {p : T} (h : l[i]? = some p) : l.take (i + 1) = l.take i ++ [p] := by rw [List.take_add_one, h]; rfl
theorem AL8 {l : List T} {xs : List X} {p : T} {x : X} {i : Nat} (hp : l[i]? = some p) (h : xs.length = i) : (ow p x ++ nin ow (l.take i) xs).Perm (nin ow (l.take (i + 1)) (xs ++ [x])) := by
  have hi := (List.getElem?_eq_some_iff.1 hp).1
  rw [AV4 hp]
  exact nin_snoc (by rw [h, F8]; omega)
theorem Aq1 {l : List T} {xs : List X} {p : T} {x : X} {i : Nat} (hp : l[i]? = some p) (h : xs.length = i) : nrows ocs (l.take i) xs ++ [ocs p x] = nrows ocs (l.take (i + 1)) (xs ++ [x]) := by
  have hi := (List.getElem?_eq_some_iff.1 hp).1
  rw [AV4 hp, Aq0 (by rw [h, F8]; omega)]
theorem AC5 {l : List T} {xs : List X} {p : T} {x : X} {i : Nat} {z : List AV} (hp : l[i]? = some p) (h : xs.length = i) : (nrows ocs (l.take i) xs ++ List.replicate (l.length - i) z).set i (ocs p x) = nrows ocs (l.take (i + 1)) (xs ++ [x]) ++ List.replicate (l.length - (i + 1)) z := by
  have hi := (List.getElem?_eq_some_iff.1 hp).1
  have h1 : (nrows ocs (l.take i) xs).length = i := by rw [X0 (by rw [h, F8]; omega), F8]; omega
  rw [List.set_append_right _ _ (by omega), h1, Nat.sub_self, show l.length - i = (l.length - (i + 1)) + 1 by omega, List.replicate_succ, AN1, ← Aq1 hp h]
  simp
theorem l0 {l : List T} {xs : List X} {i : Nat} {z : List AV} (hi : i ≤ l.length) (h : xs.length = i) : (nrows ocs (l.take i) xs ++ List.replicate (l.length - i) z).length = l.length := by
  rw [I5, List.length_replicate, X0 (by rw [h, F8]; omega), F8]; omega
theorem s8 {p : T} {x : X} : ∀ {l : List T} {xs : List X} {i : Nat}, l[i]? = some p → xs[i]? = some x → (nin ow l xs).Perm (ow p x ++ nin ow (l.eraseIdx i) (xs.eraseIdx i))
  | [], _, _, h, _ => by simp at h
  | _ :: _, [], _, _, h => by simp at h
  | q :: l, y :: xs, 0, hp, hx => by simp at hp hx; subst hp; subst hx; exact List.Perm.refl _
  | q :: l, y :: xs, i + 1, hp, hx => by
    have ih := s8 (l := l) (xs := xs) (i := i) (by simpa using hp) (by simpa using hx)
    unfold nin at *
    simp only [List.zipWith_cons_cons, List.flatten_cons, eraZs]
    refine (List.Perm.append_left (ow q y) ih).trans ?_
    rw [← List.append_assoc, ← List.append_assoc]
    exact List.Perm.append_right _ List.perm_append_comm
theorem AR8 {p p' : T} {x : X} {l : List T} {xs : List X} {i : Nat} (hp : l[i]? = some p) (hx : xs[i]? = some x) : (ow p' x ++ nin ow (l.eraseIdx i) (xs.eraseIdx i)).Perm (nin ow (l.set i p') xs) := by
  have hi := (List.getElem?_eq_some_iff.1 hp).1
  have h := s8 (ow := ow) (l := l.set i p') (xs := xs) (i := i) (p := p') (x := x) (List.getElem?_set_self hi) hx
  rw [List.eraseIdx_set_eq] at h
  exact h.symm
theorem i7 {p : T} {x : X} : ∀ {l : List T} {xs : List X} {i : Nat}, l[i]? = some p → xs[i]? = some x → nrows ocs l xs = nrows ocs (l.take i) (xs.take i) ++ ocs p x :: nrows ocs (l.drop (i + 1)) (xs.drop (i + 1))
  | [], _, _, h, _ => by simp at h
  | _ :: _, [], _, _, h => by simp at h
  | q :: l, y :: xs, 0, hp, hx => by simp at hp hx; subst hp; subst hx; rfl
  | q :: l, y :: xs, i + 1, hp, hx => by
    have ih := i7 (p := p) (x := x) (l := l) (xs := xs) (i := i) (by simpa using hp) (by simpa using hx)
    unfold nrows at *
    simp only [List.zipWith_cons_cons, w5, droZs, AN2]
    rw [ih]
theorem AC6 {p p' : T} {x : X} {l : List T} {xs : List X} {i : Nat} (hp : l[i]? = some p) (hx : xs[i]? = some x) : nrows ocs (l.take i) (xs.take i) ++ ocs p' x :: nrows ocs (l.drop (i + 1)) (xs.drop (i + 1)) = nrows ocs (l.set i p') xs := by
  have hi := (List.getElem?_eq_some_iff.1 hp).1
  rw [i7 (l := l.set i p') (i := i) (p := p') (x := x) (List.getElem?_set_self hi) hx, List.take_set_of_le (Nat.le_refl _), List.drop_set_of_lt (by omega)]
theorem N6 {p : T} {x : X} {l : List T} {xs : List X} {i : Nat} (hp : l[i]? = some p) (hx : xs[i]? = some x) : (nrows ocs (l.take i) (xs.take i)).length = i := by
  have h1 := (List.getElem?_eq_some_iff.1 hp).1
  have h2 := (List.getElem?_eq_some_iff.1 hx).1
  unfold nrows; rw [List.length_zipWith, F8, F8]; omega
theorem U3 {p : T} {x : X} {l : List T} {xs : List X} {i : Nat} {r : List AV} (hp : l[i]? = some p) (hx : xs[i]? = some x) (hl : xs.length = l.length) : (nrows ocs (l.take i) (xs.take i) ++ r :: nrows ocs (l.drop (i + 1)) (xs.drop (i + 1))).length = l.length := by
  have h1 := (List.getElem?_eq_some_iff.1 hp).1
  rw [I5, N6 hp hx, K0]
  unfold nrows; rw [List.length_zipWith, List.length_drop, List.length_drop]; omega
theorem An6 {p : T} {x : X} {l : List T} {xs : List X} {i : Nat} (hp : l[i]? = some p) (hx : xs[i]? = some x) : ∀ o ∈ ow p x, o ∈ nin ow l xs := fun o ho => (s8 (ow := ow) (i := i) hp hx).mem_iff.2 (List.mem_append_left _ ho)
theorem Ac7 {own : List Own} {v : Value} {t : TypeId} {sz : Nat} {l : List T} {xs : List X} (hlc : ∀ p x, (∀ o ∈ ow p x, o ∈ own) → LendC own (ocs p x) (cs p)) (hlen : xs.length = l.length) (i : Nat) (hi : own[i]? = some (.arr v t sz (nrows ocs l xs))) (hm : ∀ o ∈ nin ow l xs, o ∈ own) : LendTo own (AV.is v) (AV.list sz (l.map cs)) :=
  d5 (H5 hi) ⟨by rw [X0 hlen, A6], fun j a b ha hb => by
    rw [List.getElem?_map] at hb
    cases hp : l[j]? with
    | none => rw [hp] at hb; cases hb
    | some p =>
      rw [hp] at hb
      have hj := (List.getElem?_eq_some_iff.1 hp).1
      obtain ⟨x, hx⟩ : ∃ x, xs[j]? = some x := ⟨_, List.getElem?_eq_getElem (by omega)⟩
      rw [AV3 hp hx] at ha
      injection ha with ha; injection hb with hb; subst ha; subst hb
      exact hlc p x fun o ho => hm o (An6 hp hx o ho)⟩
end
section
variable {T : Type}
def marksN (mk : T → Int → T) (mn : T → Int → Int) : List T → Int → List T
  | [], _ => []
  | p :: l, k => mk p k :: marksN mk mn l (mn p k)
def countN (mn : T → Int → Int) : List T → Int → Int
  | [], k => k
  | p :: l, k => countN mn l (mn p k)
variable {mk : T → Int → T} {mn : T → Int → Int}
theorem g7 : ∀ (l : List T) (k : Int), (marksN mk mn l k).length = l.length
  | [], _ => rfl
  | p :: l, k => by unfold marksN; simp [g7 l]
theorem Y5 {p : T} : ∀ {l : List T} {i : Nat} {k : Int}, l[i]? = some p → countN mn (l.take (i + 1)) k = mn p (countN mn (l.take i) k)
  | [], _, _, h => by simp at h
  | q :: l, 0, k, h => by simp at h; subst h; rfl
  | q :: l, i + 1, k, h => by
    simp only [w5]
    unfold countN
    exact Y5 (by simpa using h)
theorem AJ3 {p : T} : ∀ {l : List T} {i : Nat} {k : Int}, l[i]? = some p → marksN mk mn (l.take (i + 1)) k = marksN mk mn (l.take i) k ++ [mk p (countN mn (l.take i) k)]
  | [], _, _, h => by simp at h
  | q :: l, 0, k, h => by simp at h; subst h; rfl
  | q :: l, i + 1, k, h => by
    simp only [w5]
    unfold marksN countN
    rw [AJ3 (by simpa using h)]; rfl
theorem e7 (hm : ∀ p k, k ≤ mn p k) : ∀ (l : List T) (k : Int), k ≤ countN mn l k
  | [], k => Int.le_refl _
  | p :: l, k => Int.le_trans (hm p k) (e7 hm l _)
theorem s3 (hm : ∀ p k, k + 1 ≤ mn p k) : ∀ (l : List T) (k : Int), k + l.length ≤ countN mn l k
  | [], k => by simp [countN]
  | p :: l, k => by
    have h1 := s3 hm l (mn p k)
    have h2 := hm p k
    unfold countN
    simp only [K0]
    omega
theorem Y6 (hm : ∀ p k, k ≤ mn p k) : ∀ (l : List T) (i : Nat) (k : Int), k ≤ countN mn (l.take i) k ∧ countN mn (l.take i) k ≤ countN mn l k
  | [], i, k => by simp [countN]
  | p :: l, 0, k => by simp only [List.take_zero]; exact ⟨Int.le_refl _, e7 hm _ _⟩
  | p :: l, i + 1, k => by
    simp only [w5]
    unfold countN
    have h1 := Y6 hm l i (mn p k)
    exact ⟨Int.le_trans (hm p k) h1.1, h1.2⟩
def midN (mk : T → Int → T) (mn : T → Int → Int) (l : List T) (k : Int) (i : Nat) : List T := marksN mk mn (l.take i) k ++ l.drop i
theorem AG2 {l : List T} {k : Int} : midN mk mn l k 0 = l := by unfold midN; simp [marksN]
theorem AL9 {l : List T} {k : Int} {i : Nat} (h : l.length ≤ i) : midN mk mn l k i = marksN mk mn l k := by unfold midN; rw [List.take_of_length_le h, List.drop_eq_nil_of_le h, List.append_nil]
theorem AM0 {l : List T} {k : Int} {i : Nat} {p : T} (h : l[i]? = some p) : (midN mk mn l k i)[i]? = some p := by
  have hi := (List.getElem?_eq_some_iff.1 h).1
  unfold midN
  rw [List.getElem?_append_right (by rw [g7, F8]; omega), g7, F8, Nat.min_eq_left (by omega), Nat.sub_self, List.getElem?_drop]
  simpa using h
theorem L7 {l : List T} {k : Int} {i : Nat} (h : i ≤ l.length) : (midN mk mn l k i).length = l.length := by
  unfold midN; rw [I5, g7, F8, List.length_drop]; omega
theorem AG3 {l : List T} {k : Int} {i : Nat} {p : T} (h : l[i]? = some p) : (midN mk mn l k i).set i (mk p (countN mn (l.take i) k)) = midN mk mn l k (i + 1) := by
  have hi := (List.getElem?_eq_some_iff.1 h).1
  unfold midN
  rw [List.set_append_right _ _ (by rw [g7, F8]; omega), g7, F8, Nat.min_eq_left (by omega), Nat.sub_self, drop_some h, AN1, AJ3 h]
  simp
end
end Go.AV

namespace Go.AV
section
variable {P : Program} {G : Nat → Prop} {n : Nat} {own : List Own} {o : Oper}
end
end Go.AV

namespace Go.AV
section
variable {P : Program} {G : Nat → Prop} {n : Nat} {own : List Own} {o : Oper}
theorem Au4 {rest : List Own} : ∀ b, (fun _ : Nat => False) b → b ∈ rest.filterMap Own.blk := fun _ h => h.elim
theorem gin_nil {rest : List Own} : ∀ b, blksOf [] b → b ∈ rest.filterMap Own.blk := fun _ ⟨_, h, _⟩ => by simp at h
theorem gin_cons {q q' : Own} {ow rest : List Own} (i : Nat) (h : rest[i]? = some q') (hb : Own.blk q = Own.blk q') (k : ∀ b, blksOf ow b → b ∈ rest.filterMap Own.blk) : ∀ b, blksOf (q :: ow) b → b ∈ rest.filterMap Own.blk := fun b ⟨x, hx, hxb⟩ => by
  rcases List.mem_cons.1 hx with rfl | hx
  · exact List.mem_filterMap.2 ⟨q', H5 h, hb ▸ hxb⟩
  · exact k b ⟨x, hx, hxb⟩
theorem AO2 {sel rest : List Own} {w0 : World} {R0 R : RHeap} {w : World} (h : Core G w0 R0 (sel ++ rest) R w) (hG : ∀ b, G b → b ∈ rest.filterMap Own.blk) : Core G w0 R0 rest (lend sel w R) w := by
  have hl := T9 h
  refine ⟨h.os, h.tape, h.output, h.size, h.block, AI1 hl, fun b hb => ?_, fun q hq => ?_, fun q hq => h.fresh q (List.mem_append_right _ hq), (AB9 h).sep⟩
  · unfold lend
    cases hob : ownB sel b with
    | true =>
      obtain ⟨x, hx, hxb⟩ := c8 hob
      rcases h.fresh x (List.mem_append_left _ hx) b hxb with h1 | h1
      · omega
      · obtain ⟨y, hy, hyb⟩ := List.mem_filterMap.1 (hG b h1)
        exact absurd hyb (p3 h.sep hx hy hxb)
    | false => exact h.rold b hb
  · have hk := h.owned q (List.mem_append_right _ hq)
    refine Own.ok_keep hk (Z5 hl) fun b hb => ⟨rfl, ?_⟩
    unfold lend
    cases hob : ownB sel b with
    | true =>
      obtain ⟨x, hx, hxb⟩ := c8 hob
      exact absurd hb (p3 h.sep hx hq hxb)
    | false => exact (Own.ok_blk hk hb).1
theorem le_sealD {env : List (Nat × AV)} {sel rest : List Own} {x y : AV} (is : List Nat) (t : Nat) (hp : pick own is = (sel, rest)) (ht : getv t env = some x) (hl : LendTo sel x y) (hG : ∀ b, G b → b ∈ rest.filterMap Own.blk) : Le G n ⟨own, env⟩ ⟨rest, (t, y) :: env⟩ := fun w0 R0 R a w ⟨h1, h2, h3⟩ => by
  have hc := d4 h1 hp
  refine ⟨lend sel w R, Z5 (T9 hc), AO2 hc hG, fun k z hz => ?_, h3⟩
  simp only [getv] at hz
  by_cases hk : t = k
  · subst hk
    simp [Nat.beq_refl] at hz
    rw [← hz]
    exact hl G w0 R0 R w _ (T9 hc) (h2 t x ht)
  · rw [l6 hk, cond_false] at hz
    exact z.mono (Z5 (T9 hc)) (h2 k z hz)
theorem AM1 {ops : Array Oper} {rest : List Oper} {env : List (Nat × AV)} {K : AState → Prop} {d : Nat} {c : Bool} (hd : o.dst = some d) (hn : Nat.blt d n = true) (hg : GuardIs ops o (getv · env) c)
    (ht : c = true → ASeq P G n ops ({ o with guard := none } :: rest) ⟨own, env⟩ K) (hf : c = false → ASeq P G n ops rest ⟨own, (d, AV.is undef) :: env⟩ K) : ASeq P G n ops (o :: rest) ⟨own, env⟩ K := fun w0 R0 R a w hs => by
  have hgc := hg R a fun t _ y hy => hs.2.1 t y hy
  cases c with
  | true =>
    refine ⟨fun _ => ?_, fun hw => by rw [hgc] at hw; exact Bool.noConfusion hw⟩
    exact (ht rfl w0 R0 R a w hs).1 rfl
  | false =>
    refine ⟨fun hw => by rw [hgc] at hw; exact Bool.noConfusion hw, fun _ => ⟨_, R, hf rfl, RSub.refl _, ?_⟩⟩
    obtain ⟨h1, h2, h3, h4⟩ := hs
    refine ⟨h1, ?_, by rw [Q7]; exact h3, by rw [O5]; exact h4⟩
    have := Y1 (d := o.dst) (x := AV.is undef) (v := undef) h2 (RSub.refl R) (fun q e => by rw [h3]; rw [hd] at e; injection e with e; subst e; exact Nat.blt_eq.mp hn) rfl
    rw [hd] at this ⊢
    exact this
theorem evif_no {E : EnvF} {p : Operand} {b : Bool} {x : AV} (h : b = false) : EvIf E p b x := fun hb => by rw [h] at hb; cases hb
def bandI (x y : Int) : Int := IntKind.u64.wrap (((BitVec.ofInt IntKind.u64.bits x &&& BitVec.ofInt IntKind.u64.bits y).toNat : Nat) : Int)
theorem AY1 {Inv : List Own → Prop} {md : Region.Mode} {ops : Array Oper} {m i : Nat} {oi : Oper} {x : AV} {L : Array Bool → EnvF → List Own → Prop} (hi : ops[i]? = some oi)
    (hm0 : m = ops.size) (hin : i < m)
    (hdone : ∀ listed E W, L listed E W → ∀ j ∈ Region.ready md ops listed, m ≤ j) :
    ∀ (f : Nat) (listed : Array Bool) (E : EnvF) (W : List Own), HeadInv md ops m listed → Inv W →
      (∀ j oj, ops[j]? = some oj → j ≠ i → listed.getD j true = false → (∀ e ∈ oj.after, Region.binds md e = true → e.on ≠ i) → oi.apart ops oj = true) →
      i ∈ Region.ready md ops listed → (∀ W, Inv W → OpA P G n W ops oi E x) →
      wpAnyB P G n Inv md ops m L f (listed.setIfInBounds i true) (updF oi.dst x E) W → wpAnyB P G n Inv md ops m L (f + 1) listed E W := by
  have put : ∀ {K : EnvF → List Own → Prop} {E : EnvF} {W : List Own}, Inv W → (∀ W, Inv W → OpA P G n W ops oi E x) → K (updF oi.dst x E) W → qB P G n Inv ops i K E W := fun hW hy hK => by
    unfold qB
    simp only [hi]
    exact .inl ⟨x, hy _ hW, hK⟩
  intro f
  induction f with
  | zero =>
    intro listed E W inv hW _ hr hy H
    have hun := (mem_ready.1 hr).1
    refine ⟨fun h => (by rw [h] at hr; cases hr), fun j hj => ?_⟩
    have hjn : j < m := by
      rcases Nat.lt_or_ge j m with h | h
      · exact h
      · obtain ⟨_, oj, hoj, _⟩ := mem_ready.1 hj
        have := (Array.getElem?_eq_some_iff.1 hoj).1
        omega
    refine ⟨hjn, ?_⟩
    by_cases hji : j = i
    · subst hji; exact put hW hy H
    · have := hdone _ _ _ H j (ready_mono hj hji)
      omega
  | succ f ih =>
    intro listed E W inv hW hfree hr hy H
    have hun := (mem_ready.1 hr).1
    refine ⟨fun h => (by rw [h] at hr; cases hr), fun j hj => ?_⟩
    have hjn : j < m := by
      rcases Nat.lt_or_ge j m with h | h
      · exact h
      · obtain ⟨_, oj, hoj, _⟩ := mem_ready.1 hj
        have := (Array.getElem?_eq_some_iff.1 hoj).1
        omega
    refine ⟨hjn, ?_⟩
    by_cases hji : j = i
    · subst hji; exact put hW hy H
    · have h1 := (H.2 j (ready_mono hj hji)).2
      obtain ⟨hjun, oj, hoj, hall⟩ := mem_ready.1 hj
      have hnot : ∀ e ∈ oj.after, Region.binds md e = true → e.on ≠ i := fun e he hb heq => by
        have h1 := hall e he hb
        rw [heq, getD_both hun] at h1
        cases h1
      have h2 := qB_put hoj (hfree j oj hoj hji hjun hnot) hW hy h1
      have hfree' : ∀ k ok, ops[k]? = some ok → k ≠ i → (listed.setIfInBounds j true).getD k true = false →
          (∀ e ∈ ok.after, Region.binds md e = true → e.on ≠ i) → oi.apart ops ok = true := fun k ok hk hki hun hno => by
        refine hfree k ok hk hki ?_ hno
        by_cases hjk : j = k
        · subst hjk; exact hjun
        · rw [getD_set_ne true hjk] at hun; exact hun
      refine An1 hW (fun E' W' hW' h3 => ih (listed.setIfInBounds j true) E' W' (inv.set hj hjn) hW' hfree' (ready_mono hr (Ne.symm hji)) h3.1 ?_) h2
      rw [Array.setIfInBounds_comm _ _ hji]
      exact h3.2
def treeZ (md : Region.Mode) (ops : Array Oper) (m : Nat) (ord : OT) : Bool :=
  decide (m = ops.size) && ord.deep m && ordT md ops (ops.size - m) m ord (Array.replicate ops.size false)
theorem m5 {Inv : List Own → Prop} {md : Region.Mode} {ops : Array Oper} {m g : Nat} {K : List (Nat × AV) → List Own → Prop} (hm0 : m = ops.size) :
    ∀ (l : OT) (f : Nat) (listed : Array Bool) (env : List (Nat × AV)) (W : List Own), l.deep f = true → HeadInv md ops m listed → Inv W →
    ordT md ops g m l listed = true → BT P G n Inv ops l env W K →
    wpAnyB P G n Inv md ops m (fun listed' E W => Region.seqB md ops g m listed' = true ∧ ∃ env', E = (getv · env') ∧ K env' W) f listed (getv · env) W
  | .nil, 0, listed, env, W, _, _, _, hB, h => ⟨hB, env, rfl, h⟩
  | .nil, _ + 1, _, _, _, hdp, _, _, _, _ => by cases hdp
  | .pure _ _, 0, _, _, _, hdp, _, _, _, _ => by cases hdp
  | .e1 _ _, 0, _, _, _, hdp, _, _, _, _ => by cases hdp
  | .e2 _ _ _ _, 0, _, _, _, hdp, _, _, _, _ => by cases hdp
  | .pure i l, f + 1, listed, env, W, hdp, inv, hW, hB, h => by
    simp only [ordT, Bool.and_eq_true] at hB
    obtain ⟨⟨⟨hr, hf⟩, hlt⟩, hB'⟩ := hB
    have hkn : i < m := Nat.blt_eq.mp hlt
    have hr' : i ∈ Region.ready md ops listed := by simpa using hr
    obtain ⟨o, ho, x, hx, hK⟩ := h
    refine AY1 ho hm0 hkn (fun listed' E W hL => seqB_ready hL.1) f listed _ W inv hW (Region.free_spec ho hf) hr' hx ?_
    rw [← W6]
    exact m5 hm0 l f _ _ W hdp (inv.set hr' hkn) hW hB' hK
  | .e1 i l, f + 1, listed, env, W, hdp, inv, hW, hB, h => by
    simp only [ordT, Bool.and_eq_true, decide_eq_true_eq] at hB
    obtain ⟨⟨hr, hlt⟩, hB'⟩ := hB
    have hkn : i < m := Nat.blt_eq.mp hlt
    have hr' : i ∈ Region.ready md ops listed := by rw [hr]; simp
    obtain ⟨o, ho, hg, α, ok, W', V, h1, h2, h3⟩ := h
    refine ⟨fun h0 => (by rw [h0] at hr'; cases hr'), fun j hj => ?_⟩
    rw [hr] at hj
    have : j = i := by simpa using hj
    subst this
    refine ⟨hkn, ?_⟩
    unfold qB
    simp only [ho]
    refine .inr ⟨hg, α, ok, W', V, h1, h2, fun a ha => ?_⟩
    rw [← W6]
    exact m5 hm0 l f _ _ (W' a) hdp (inv.set hr' hkn) (h2 a ha) hB' (h3 a ha)
  | .e2 i l k u, f + 1, listed, env, W, hdp, inv, hW, hB, h => by
    simp only [ordT, Bool.and_eq_true, decide_eq_true_eq] at hB
    obtain ⟨⟨⟨⟨hr, hlt⟩, hlt2⟩, hB'⟩, hB2⟩ := hB
    simp only [OT.deep, Bool.and_eq_true] at hdp
    have hkn : i < m := Nat.blt_eq.mp hlt
    have hkn2 : k < m := Nat.blt_eq.mp hlt2
    have hr' : i ∈ Region.ready md ops listed := by rw [hr]; simp
    have hr2 : k ∈ Region.ready md ops listed := by rw [hr]; simp
    obtain ⟨⟨o, ho, hg, α, ok, W', V, h1, h2, h3⟩, ⟨o', ho', hg', α', ok', W'', V', h1', h2', h3'⟩⟩ := h
    refine ⟨fun h0 => (by rw [h0] at hr'; cases hr'), fun j hj => ?_⟩
    rw [hr] at hj
    simp only [List.mem_cons, List.not_mem_nil, or_false] at hj
    rcases hj with hj | hj
    · subst hj
      refine ⟨hkn, ?_⟩
      unfold qB
      simp only [ho]
      refine .inr ⟨hg, α, ok, W', V, h1, h2, fun a ha => ?_⟩
      rw [← W6]
      exact m5 hm0 l f _ _ (W' a) hdp.1 (inv.set hr' hkn) (h2 a ha) hB' (h3 a ha)
    · subst hj
      refine ⟨hkn2, ?_⟩
      unfold qB
      simp only [ho']
      refine .inr ⟨hg', α', ok', W'', V', h1', h2', fun a ha => ?_⟩
      rw [← W6]
      exact m5 hm0 u f _ _ (W'' a) hdp.2 (inv.set hr2 hkn2) (h2' a ha) hB2 (h3' a ha)
theorem AM2 {id : Nat} {l : List Oper} {Q : Exit → AState → Prop} {env : List (Nat × AV)} {own : List Own} (base : List Own) (m : Nat) (ord : OT) (hm : P.follows .mixedOrders = true) (hB : treeZ .any l.toArray m ord = true) (hd : dstOk n l = true) (hb : InvX base own)
  (h : BT P G n (InvX base) l.toArray ord env own (fun env' W => ASeq P G n l.toArray (l.drop m) ⟨W, env'⟩ (Q .normal))) : AWP P G n (.region id l.toArray true) Q ⟨own, env⟩ := fun w0 R0 R a w ⟨h1, h2, h3, h4⟩ => by
 simp only [treeZ, Bool.and_eq_true, decide_eq_true_eq] at hB
 obtain ⟨⟨hm0, hdp⟩, hlex⟩ := hB
 have hn' : m = l.length := by simpa using hm0
 have hdl : (l.drop m).length = l.toArray.size - m := by simp
 have inv0 : HeadInv .any l.toArray m (Array.replicate l.toArray.size false) :=
  ⟨by simp, fun j oj _ hl => (by rw [getD_replicate_false] at hl; cases hl), fun t _ ht => getD_in (by simpa using ht) (getD_replicate_false _ _)⟩
 have H := m5 (g := l.toArray.size - m) hm0 ord m _ env own hdp inv0 hb hlex h
 refine wp_region_any hm ?_
 have := f8 (w0 := w0) (R0 := R0) (R00 := R) (g := l.toArray.size - m) (Q' := fun e a' w' => ∃ s' R', Q e s' ∧ RSub R R' ∧ St G n w0 R0 s' R' a' w') (fun i o ho d e => AB4 hd i o (by simpa using ho) d e) (fun listed E W R' a' w' g1 g2 g3 g4 g5 hL => by
  obtain ⟨hL1, env', rfl, hL2⟩ := hL
  have := wpAny_of_seq (P := P) (md := .any) (Q' := fun e a' w' => ∃ s' R', Q e s' ∧ RSub R R' ∧ St G n w0 R0 s' R' a' w') (l.drop m) m listed a' w' (fun j => by simp [List.getElem?_drop]) (by rw [hdl]; exact hL1)
   (a6 (R00 := R) (K := Q .normal) (fun s' R' a w q r1 r2 => ⟨s', R', q, r1, r2⟩) _ (⟨W, env'⟩ : AState) R' a' w' g1 ⟨g2, g3, g4, g5⟩ hL2)
  rwa [hdl] at this) _ _ _ own R a _ (RSub.refl _) (AF1 h1) h2 h3 h4 H
 rw [show m + (l.toArray.size - m) = l.toArray.size by omega] at this
 exact this
end
end Go.AV

set_option maxHeartbeats 1000000
namespace Go.Proofs.YtkegepoihkhihaaGreat
open Go Go.AV Go.M
attribute [local irreducible] OpW OpA OpS AWP FSpec ESpec GSpec OpE RetOk RetOkG RvDen Le Ev GuardIs SrcIs Int.tmod Int.tdiv IntKind.wrap
end Go.Proofs.YtkegepoihkhihaaGreat

namespace Go.M
open Go.AV
section
variable {α : Type} [Inhabited α] [DecidableEq α]
def cmpN (l : List α) : Nat → List α
  | 0 => []
  | n + 1 => if n ≠ 0 ∧ l[n]? = l[n - 1]? then cmpN l n else cmpN l n ++ (l[n]?).toList
def cmpL (l : List α) : List α := cmpN l l.length
theorem AV5 {l : List α} {n : Nat} (h0 : n ≠ 0) (h : l[n]? = l[n - 1]?) : cmpN l (n + 1) = cmpN l n := if_pos ⟨h0, h⟩
theorem AV6 {l : List α} {n : Nat} {x : α} (hx : l[n]? = some x) (h : n = 0 ∨ l[n]? ≠ l[n - 1]?) : cmpN l (n + 1) = cmpN l n ++ [x] := by
  show (if n ≠ 0 ∧ l[n]? = l[n - 1]? then cmpN l n else cmpN l n ++ (l[n]?).toList) = _
  rw [if_neg (fun e => h.elim (fun f => e.1 f) fun f => f e.2), hx]; rfl
theorem x4 {l : List α} : ∀ {n : Nat}, n ≤ l.length → (∀ i, 1 ≤ i → i < n → l[i]? ≠ l[i - 1]?) → cmpN l n = l.take n
  | 0, _, _ => by rw [List.take_zero]; rfl
  | n + 1, hn, h => by
    have hx : l[n]? = some l[n] := List.getElem?_eq_getElem (by omega)
    rw [AV6 hx (by by_cases e : n = 0; exact .inl e; exact .inr (h n (by omega) (by omega))), x4 (by omega) (fun i h1 h2 => h i h1 (by omega)), List.take_add_one, hx]; rfl
theorem AG4 {m l : List α} {i j : Nat} {x : α} (h : m.drop i = l.drop i) (hx : l[j]? = some x) (hij : i ≤ j) : m[j]? = some x := by
  have h1 := congrArg (fun z : List α => z[j - i]?) h
  simp only [List.getElem?_drop, show i + (j - i) = j by omega] at h1
  rw [h1, hx]
theorem cmp_keep {l m : List α} {k i j : Nat} {x y : α} (h : 1 ≤ j ∧ k + j ≤ l.length ∧ i + 1 ≤ k + j ∧ m.length = l.length ∧ m.take i = cmpN l (k + j) ∧ m.drop (k + j - 1) = l.drop (k + j - 1)) (hlt : k + j < l.length) (hx : l[k + j]? = some x) (hy : l[k + j - 1]? = some y) (hn : x ≠ y) :
    1 ≤ j + 1 ∧ k + (j + 1) ≤ l.length ∧ i + 1 + 1 ≤ k + (j + 1) ∧ (m.set i x).length = l.length ∧ (m.set i x).take (i + 1) = cmpN l (k + (j + 1)) ∧ (m.set i x).drop (k + (j + 1) - 1) = l.drop (k + (j + 1) - 1) := by
  obtain ⟨h1, h2, h3, h4, h5, h6⟩ := h
  refine ⟨by omega, by omega, by omega, by rw [List.length_set, h4], ?_, ?_⟩
  · rw [List.take_add_one, List.getElem?_set_self (by omega), List.take_set_of_le (Nat.le_refl _), h5, ← Nat.add_assoc, AV6 hx (.inr (by rw [hx, hy]; intro e; injection e with e; exact hn e))]; rfl
  · rw [List.drop_set_of_lt (by omega), show k + (j + 1) - 1 = k + j - 1 + 1 by omega, ← List.drop_drop, h6, List.drop_drop]
theorem cmp_skip {l m : List α} {k i j : Nat} {x y : α} (h : 1 ≤ j ∧ k + j ≤ l.length ∧ i + 1 ≤ k + j ∧ m.length = l.length ∧ m.take i = cmpN l (k + j) ∧ m.drop (k + j - 1) = l.drop (k + j - 1)) (hlt : k + j < l.length) (hx : l[k + j]? = some x) (hy : l[k + j - 1]? = some y) (hn : x = y) :
    1 ≤ j + 1 ∧ k + (j + 1) ≤ l.length ∧ i + 1 ≤ k + (j + 1) ∧ m.length = l.length ∧ m.take i = cmpN l (k + (j + 1)) ∧ m.drop (k + (j + 1) - 1) = l.drop (k + (j + 1) - 1) := by
  obtain ⟨h1, h2, h3, h4, h5, h6⟩ := h
  refine ⟨by omega, by omega, by omega, h4, ?_, ?_⟩
  · rw [h5, ← Nat.add_assoc, AV5 (by omega) (by rw [hx, hy, hn])]
  · rw [show k + (j + 1) - 1 = k + j - 1 + 1 by omega, ← List.drop_drop, h6, List.drop_drop]
theorem AR9 {l m : List α} {f : α → List AV} {k i j q : Nat} {z : List AV} (h : m.take i = cmpN l (k + j)) (hk : k + j = l.length) (hi : i ≤ m.length) : (((m.map f).take (i : Int).toNat ++ List.replicate q z).take (i : Int).toNat) = (cmpL l).map f := by
  unfold cmpL
  rw [← hk, ← h, Int.toNat_natCast, List.map_take, List.take_left' (by rw [F8, A6]; omega)]
end
end Go.M

namespace Go.M
theorem n5 {α : Type} {p : α → Bool} {l : List α} {i : Nat} {x : α} (hx : l[i]? = some x) (h : p x = true) : (l.drop i).all p = (l.drop (i + 1)).all p := by
  rw [Go.AV.drop_some hx, List.all_cons, h, Bool.true_and]
theorem j5 {α : Type} {p : α → Bool} {l : List α} {i : Nat} {x : α} (hx : l[i]? = some x) (h : p x = false) : (l.drop i).all p = false := by
  rw [Go.AV.drop_some hx, List.all_cons, h, Bool.false_and]
theorem X5 {α : Type} {p : α → Bool} {l : List α} {i : Nat} (h : l.length ≤ i) : (l.drop i).all p = true := by
  rw [List.drop_eq_nil_of_le h]; rfl
end Go.M

namespace Go.M
theorem AE1 {α β : Type} {f : α → β} {l : List α} {i : Nat} {x : α} (h : l[i]? = some x) : (l.take i).map f ++ [f x] = (l.take (i + 1)).map f := by
  rw [List.take_add_one, h]; simp
def areRising (l : List Str) : Bool := l.all goodKey && adj Op.bytesLess l
def wKeys (l : List TWrite) : List Str := l.map TWrite.Key
def goodWrites (l : List TWrite) : Bool := decide ((l.length : Int) ≤ 24) && areRising (wKeys l) && !(l.any fun w => !isStored w.Val w.Gone)
def wLess (a b : TWrite) : Bool := Op.bytesLess a.Key b.Key
def wGood (w : TWrite) : Bool := l3Write w.Key w.Val w.Gone
def l3Writes (l : List TWrite) : Bool := (l.all wGood && adj wLess l) && decide ((l.length : Int) ≤ 24)
theorem AI4 {α β : Type} (f : α → β) (p : β → β → Bool) : ∀ l : List α, adj p (l.map f) = adj (fun a b => p (f a) (f b)) l
  | [] => rfl
  | [_] => rfl
  | x :: y :: l => by
    have := AI4 f p (y :: l)
    simp only [List.map_cons, adj] at *
    rw [this]
theorem AE2 (l : List TWrite) : goodWrites l = l3Writes l := by
  unfold goodWrites l3Writes areRising wKeys
  rw [AI4, List.all_map, List.not_any_eq_all_not]
  have h2 : l.all wGood = ((l.all (goodKey ∘ TWrite.Key)) && l.all fun w => l3Val w.Val && (!w.Gone || w.Val == [])) := by
    induction l with
    | nil => rfl
    | cons w l ih =>
      simp only [List.all_cons, ih, wGood, l3Write, Function.comp, m4, Bool.and_assoc]
      cases l3Key w.Key <;> cases l3Val w.Val <;> cases (!w.Gone || w.Val == []) <;> simp only [Bool.true_and, Bool.and_true, Bool.false_and, Bool.and_false]
  have h1 : (l.all fun w => !!isStored w.Val w.Gone) = l.all fun w => l3Val w.Val && (!w.Gone || w.Val == []) := by
    congr 1; funext w; rw [Bool.not_not, y9]
  rw [h1, h2]
  show _ = _
  have h3 : adj (fun a b => Op.bytesLess a.Key b.Key) l = adj wLess l := rfl
  rw [h3]
  cases l.all (goodKey ∘ TWrite.Key) <;> cases adj wLess l <;> cases decide ((l.length : Int) ≤ 24) <;> cases (l.all fun w => l3Val w.Val && (!w.Gone || w.Val == [])) <;> rfl
end Go.M

namespace Go.M
theorem Q2 : ∀ {a b c : Str}, Op.bytesLess a b = true → Op.bytesLess b c = true → Op.bytesLess a c = true
  | [], b, c, h1, h2 => by
    cases c with
    | nil => cases b <;> simp [Op.bytesLess] at h2
    | cons z c => rfl
  | x :: a, [], _, h1, _ => by simp [Op.bytesLess] at h1
  | x :: a, y :: b, [], _, h2 => by simp [Op.bytesLess] at h2
  | x :: a, y :: b, z :: c, h1, h2 => by
    simp only [Op.bytesLess, Bool.or_eq_true, Bool.and_eq_true, decide_eq_true_eq, beq_iff_eq] at h1 h2 ⊢
    rcases h1 with h1 | ⟨h1, h1'⟩
    · rcases h2 with h2 | ⟨h2, _⟩
      · exact .inl (UInt8.lt_trans h1 h2)
      · subst h2; exact .inl h1
    · subst h1
      rcases h2 with h2 | ⟨h2, h2'⟩
      · exact .inl h2
      · exact .inr ⟨h2, Q2 h1' h2'⟩
theorem g8 (a b : Str) : cmpStr a b < 0 ↔ Op.bytesLess a b = true := by
  unfold cmpStr
  cases h1 : Op.bytesLess a b
  · cases h2 : Op.bytesLess b a <;> simp
  · simp
theorem AA1 (a b : Str) : cmpStr a b = 0 ↔ a = b := by
  unfold cmpStr
  have h3 := bytesLess_tri a b
  cases h1 : Op.bytesLess a b
  · cases h2 : Op.bytesLess b a
    · rw [h1, h2] at h3; simp at h3; simp [h3]
    · simp; intro h; subst h; rw [h1] at h2; cases h2
  · simp; intro h; subst h; rw [M4] at h1; cases h1
theorem AS0 {α : Type} {p : α → α → Bool} (tr : ∀ a b c, p a b = true → p b c = true → p a c = true) : ∀ {l : List α} {x : α}, adj p (x :: l) = true → ∀ y ∈ l, p x y = true
  | [], _, _, y, hy => by simp at hy
  | z :: l, x, h, y, hy => by
    simp only [adj, Bool.and_eq_true] at h
    rcases List.mem_cons.1 hy with rfl | hy
    · exact h.1
    · exact tr _ _ _ h.1 (AS0 tr h.2 y hy)
theorem Ac8 {α : Type} {p : α → α → Bool} {l : List α} {x : α} (h : adj p (x :: l) = true) : adj p l = true := by
  cases l with
  | nil => rfl
  | cons y l => simp only [adj, Bool.and_eq_true] at h; exact h.2
theorem n7 {α : Type} {p : α → α → Bool} (tr : ∀ a b c, p a b = true → p b c = true → p a c = true) : ∀ {l : List α}, adj p l = true → ∀ {i j : Nat} {x y : α}, i < j → l[i]? = some x → l[j]? = some y → p x y = true
  | [], _, i, j, x, y, _, hx, _ => by simp at hx
  | z :: l, h, 0, j + 1, x, y, _, hx, hy => by
    simp at hx; subst hx
    exact AS0 tr h y (H5 (by simpa using hy))
  | z :: l, h, i + 1, j + 1, x, y, hij, hx, hy => n7 tr (Ac8 h) (by omega : i < j) (by simpa using hx) (by simpa using hy)
theorem AS1 {α : Type} (f : α → Int) (l : List α) (down : ∀ (i j : Nat) (x y : α), i < j → l[i]? = some x → l[j]? = some y → f y < 0 → f x < 0) : ∀ (d i j : Nat), j - i = d → i ≤ j → j ≤ l.length →
    (∀ k x, k < i → l[k]? = some x → f x < 0) → (∀ x, l[j]? = some x → ¬ f x < 0) → (∀ k x, k < bs f l i j → l[k]? = some x → f x < 0) ∧ (∀ x, l[bs f l i j]? = some x → ¬ f x < 0) := by
  intro d
  induction d using Nat.strongRecOn with
  | _ d ih =>
    intro i j hd hij hjl hlo hhi
    by_cases h : i < j
    · obtain ⟨x, hx⟩ := Go.AV.get_some (show (i + j) / 2 < l.length by omega)
      by_cases hf : f x < 0
      · rw [Aa7 h hx hf]
        refine ih (j - ((i + j) / 2 + 1)) (by omega) _ _ rfl (by omega) hjl (fun k y hk hy => ?_) hhi
        rcases Nat.lt_or_ge k ((i + j) / 2) with h1 | h1
        · exact down k _ y x h1 hy hx hf
        · have : k = (i + j) / 2 := by omega
          subst this
          rw [hx] at hy; injection hy with hy; subst hy; exact hf
      · rw [Aa8 h hx hf]
        exact ih ((i + j) / 2 - i) (by omega) _ _ rfl (by omega) (by omega) hlo (fun y hy => by rw [hx] at hy; injection hy with hy; subst hy; exact hf)
    · rw [AO0 h]
      have : i = j := by omega
      subst this
      exact ⟨hlo, hhi⟩
def wCmp (k : Str) (w : TWrite) : Int := cmpStr w.Key k
def wPos (l : List TWrite) (k : Str) : Nat := bs (wCmp k) l 0 l.length
def wHas (l : List TWrite) (k : Str) : Bool := bsAt (wCmp k) l (wPos l k)
theorem AJ4 (a b c : TWrite) (h : wLess a b = true) (k : wLess b c = true) : wLess a c = true := Q2 h k
theorem Au5 {l : List TWrite} (h : adj wLess l = true) (k : Str) : (∀ i x, i < wPos l k → l[i]? = some x → Op.bytesLess x.Key k = true) ∧ (∀ x, l[wPos l k]? = some x → Op.bytesLess x.Key k = false) := by
  have := AS1 (wCmp k) l (fun i j x y hij hx hy hf => by
    unfold wCmp at *
    rw [g8] at *
    exact Q2 (n7 AJ4 h hij hx hy) hf) l.length 0 l.length rfl (Nat.zero_le _) (Nat.le_refl _) (fun k x hk => by omega) (fun x hx => by rw [List.getElem?_eq_none (Nat.le_refl _)] at hx; cases hx)
  refine ⟨fun i x hi hx => (g8 _ _).1 (this.1 i x hi hx), fun x hx => ?_⟩
  have h2 := this.2 x hx
  unfold wCmp at h2
  rw [g8] at h2
  simpa using h2
def findW (l : List TWrite) (k : Str) : Option TWrite := l.find? fun w => w.Key == k
theorem findW_eq {l : List TWrite} (h : adj wLess l = true) (k : Str) : findW l k = if wHas l k = true then l[wPos l k]? else none := by
  obtain ⟨h1, h2⟩ := Au5 h k
  have hat : ∀ w ∈ l, w.Key = k → l[wPos l k]? = some w := fun w hw he => by
    obtain ⟨i, hi⟩ := List.getElem?_of_mem hw
    rcases Nat.lt_trichotomy i (wPos l k) with hlt | heq | hgt
    · have := h1 i w hlt hi
      rw [he, M4] at this; cases this
    · rw [← heq]; exact hi
    · obtain ⟨y, hy⟩ := Go.AV.get_some (show wPos l k < l.length by have := (List.getElem?_eq_some_iff.1 hi).1; omega)
      have h3 := h2 y hy
      have h4 := n7 AJ4 h hgt hy hi
      unfold wLess at h4
      rw [he, h3] at h4; cases h4
  unfold wHas bsAt findW
  cases hp : l[wPos l k]? with
  | none =>
    simp only [Bool.false_eq_true, if_false]
    rw [List.find?_eq_none]
    intro w hw
    simp only [beq_iff_eq]
    intro he
    have := hat w hw he
    rw [hp] at this; cases this
  | some y =>
    simp only [wCmp, beq_iff_eq, AA1]
    by_cases hk : y.Key = k
    · rw [if_pos hk]
      cases hf : l.find? fun w => w.Key == k with
      | none =>
        have := List.find?_eq_none.1 hf y (H5 hp)
        simp [hk] at this
      | some w =>
        have h5 := List.find?_some hf
        have h6 := hat w (List.mem_of_find?_eq_some hf) (by simpa using h5)
        rw [hp] at h6; exact h6.symm
    · rw [if_neg hk, List.find?_eq_none]
      intro w hw
      simp only [beq_iff_eq]
      intro he
      have := hat w hw he
      rw [hp] at this; injection this with this; subst this; exact hk he
end Go.M

namespace Go.M
end Go.M

namespace Go.M
theorem wHas_iff {l : List TWrite} {k : Str} : wHas l k = true ↔ ∃ x, l[wPos l k]? = some x ∧ x.Key = k := by
  unfold wHas bsAt
  cases h : l[wPos l k]? with
  | none => simp
  | some x => simp [wCmp, AA1]
theorem Ac9 {α : Type} {p : α → α → Bool} (tr : ∀ a b c, p a b = true → p b c = true → p a c = true) : ∀ {l : List α}, adj p l = true ↔ l.Pairwise fun a b => p a b = true
  | [] => by simp [adj]
  | [x] => by simp [adj]
  | x :: y :: l => by
    rw [adj, Bool.and_eq_true, Ac9 tr, List.pairwise_cons (a := x)]
    constructor
    · intro ⟨h1, h2⟩
      refine ⟨fun z hz => ?_, h2⟩
      rcases List.mem_cons.1 hz with rfl | hz
      · exact h1
      · exact tr _ _ _ h1 (List.rel_of_pairwise_cons h2 hz)
    · intro ⟨h1, h2⟩
      exact ⟨h1 y List.mem_cons_self, h2⟩
theorem An7 (a b : Str) : (!(Op.bytesLess a b || a == b)) = Op.bytesLess b a := by
  have h := bytesLess_tri a b
  cases h1 : Op.bytesLess a b
  · cases h2 : Op.bytesLess b a
    · rw [h1, h2] at h; simp at h; simp [h]
    · simp; intro hc; subst hc; rw [M4] at h2; cases h2
  · simp; cases h2 : Op.bytesLess b a with
    | false => rfl
    | true => have := Q2 h1 h2; rw [M4] at this; cases this
end Go.M

namespace Go.M
def leastI (a b : Int) : Int := if a < b then a else b
end Go.M

namespace Go.M
end Go.M

namespace Go.M
end Go.M

namespace Go.M
theorem x5 (a b : Str) : Op.bytesLess a b = true ∨ a = b ∨ Op.bytesLess b a = true := by
  have h := bytesLess_tri a b
  cases h1 : Op.bytesLess a b
  · cases h2 : Op.bytesLess b a
    · rw [h1, h2] at h; simp at h; exact .inr (.inl h.symm)
    · exact .inr (.inr rfl)
  · exact .inl rfl
end Go.M

namespace Go.M
open Go.AV
theorem x6 (a b : TFeedItem) : l23Ahead a b = true ↔ a.Time < b.Time ∨ (a.Time = b.Time ∧ (a.Group < b.Group ∨ (a.Group = b.Group ∧ Op.bytesLess a.Key b.Key = true))) := by
  unfold l23Ahead
  by_cases h1 : a.Time = b.Time
  · by_cases h2 : a.Group = b.Group
    · simp [h1, h2]
    · simp [h1, h2]
  · simp [h1]
theorem p6 (a : TFeedItem) : l23Ahead a a = false := by
  cases h : l23Ahead a a with
  | false => rfl
  | true =>
    rw [x6] at h
    rcases h with h | ⟨_, h | ⟨_, h⟩⟩
    · omega
    · omega
    · rw [M4] at h; cases h
theorem i8 (a b c : TFeedItem) (h : l23Ahead a b = true) (k : l23Ahead b c = true) : l23Ahead a c = true := by
  rw [x6] at h k ⊢
  rcases h with h | ⟨h1, h | ⟨h2, h⟩⟩
  · rcases k with k | ⟨k1, k⟩
    · exact .inl (by omega)
    · exact .inl (by omega)
  · rcases k with k | ⟨k1, k | ⟨k2, k⟩⟩
    · exact .inl (by omega)
    · exact .inr ⟨by omega, .inl (by omega)⟩
    · exact .inr ⟨by omega, .inl (by omega)⟩
  · rcases k with k | ⟨k1, k | ⟨k2, k⟩⟩
    · exact .inl (by omega)
    · exact .inr ⟨by omega, .inl (by omega)⟩
    · exact .inr ⟨by omega, .inr ⟨by omega, Q2 h k⟩⟩
def sameKey (a b : TFeedItem) : Prop := a.Time = b.Time ∧ a.Group = b.Group ∧ a.Key = b.Key
theorem AV7 (a b : TFeedItem) : l23Ahead a b = true ∨ sameKey a b ∨ l23Ahead b a = true := by
  rw [x6, x6]; unfold sameKey
  by_cases h1 : a.Time = b.Time
  · by_cases h2 : a.Group = b.Group
    · rcases x5 a.Key b.Key with h | h | h
      · exact .inl (.inr ⟨h1, .inr ⟨h2, h⟩⟩)
      · exact .inr (.inl ⟨h1, h2, h⟩)
      · exact .inr (.inr (.inr ⟨h1.symm, .inr ⟨h2.symm, h⟩⟩))
    · by_cases h3 : a.Group < b.Group
      · exact .inl (.inr ⟨h1, .inl h3⟩)
      · exact .inr (.inr (.inr ⟨h1.symm, .inl (by omega)⟩))
  · by_cases h3 : a.Time < b.Time
    · exact .inl (.inl h3)
    · exact .inr (.inr (.inl (by omega)))
theorem Aq2 {a b : TFeedItem} (h : sameKey a b) (c : TFeedItem) : l23Ahead a c = l23Ahead b c := by
  obtain ⟨h1, h2, h3⟩ := h
  unfold l23Ahead; rw [h1, h2, h3]
theorem AO3 {a b : TFeedItem} (h : l23Ahead a b = true) : l23Ahead b a = false := by
  cases e : l23Ahead b a with
  | false => rfl
  | true => have := i8 _ _ _ h e; rw [p6] at this; cases this
theorem Au6 : Swo l23Ahead where
  asym a b h := AO3 h
  ntr a b c h k := by
    cases e : l23Ahead c a with
    | false => rfl
    | true =>
      rcases AV7 b c with f | f | f
      · rw [i8 _ _ _ f e] at h; cases h
      · rw [Aq2 f, e] at h; cases h
      · rw [f] at k; cases k
theorem lt_ahead : (fun x y : TFeedItem => decide (compareItems x y < 0)) = l23Ahead := by
  funext x y
  rw [← AD7]
  by_cases h : compareItems x y < 0
  · simp [h]
  · simp [h]; omega
def Srt (l : List TFeedItem) : Prop := l.Pairwise fun a b => l23Ahead a b = true
theorem An8 {l : List TFeedItem} : adj l23Ahead l = true ↔ Srt l := Ac9 i8
theorem AO4 (l : List TFeedItem) : isFeed l = true ↔ Srt l ∧ l.length ≤ 400 := by
  unfold isFeed
  rw [AV0 AD7, Bool.and_eq_true, An8, decide_eq_true_eq]
  constructor
  · exact fun h => ⟨h.1, by have := h.2; omega⟩
  · exact fun h => ⟨h.1, by have := h.2; omega⟩
theorem U0 (l : List TFeedItem) : l23Feed l = true ↔ (∀ x ∈ l, l23Good x = true) ∧ Srt l ∧ l.length ≤ 400 := by
  unfold l23Feed
  rw [Bool.and_eq_true, Bool.and_eq_true, An8, decide_eq_true_eq, List.all_eq_true]
  constructor
  · exact fun h => ⟨h.1.1, h.1.2, by have := h.2; omega⟩
  · exact fun h => ⟨⟨h.1, h.2.1⟩, by have := h.2.2; omega⟩
theorem AS2 : ∀ {l : List TFeedItem}, Srt l → ∀ x ∈ l, ∀ y ∈ l, l23Ahead x y = false → l23Ahead y x = false → x = y
  | [], _, x, hx, _, _, _, _ => by cases hx
  | z :: l, h, x, hx, y, hy, h1, h2 => by
    obtain ⟨k1, k2⟩ := List.pairwise_cons.1 h
    rcases List.mem_cons.1 hx with e | ex
    · rcases List.mem_cons.1 hy with f | fy
      · rw [e, f]
      · rw [e, k1 y fy] at h1; cases h1
    · rcases List.mem_cons.1 hy with f | fy
      · rw [f, k1 x ex] at h2; cases h2
      · exact AS2 k2 x ex y fy h1 h2
theorem AS3 : ∀ {a b : List TFeedItem}, Srt a → Srt b → (∀ x, x ∈ a ↔ x ∈ b) → a = b
  | [], [], _, _, _ => rfl
  | [], y :: b, _, _, h => by have := (h y).2 List.mem_cons_self; cases this
  | x :: a, [], _, _, h => by have := (h x).1 List.mem_cons_self; cases this
  | x :: a, y :: b, ha, hb, h => by
    obtain ⟨a1, a2⟩ := List.pairwise_cons.1 ha
    obtain ⟨b1, b2⟩ := List.pairwise_cons.1 hb
    have e : x = y := by
      rcases List.mem_cons.1 ((h x).1 List.mem_cons_self) with e | e
      · exact e
      · rcases List.mem_cons.1 ((h y).2 List.mem_cons_self) with f | f
        · exact f.symm
        · have := AO3 (b1 x e); rw [a1 y f] at this; cases this
    subst e
    rw [AS3 a2 b2 fun z => ?_]
    constructor
    · intro hz
      rcases List.mem_cons.1 ((h z).1 (List.mem_cons_of_mem _ hz)) with e | e
      · subst e; have := a1 z hz; rw [p6] at this; cases this
      · exact e
    · intro hz
      rcases List.mem_cons.1 ((h z).2 (List.mem_cons_of_mem _ hz)) with e | e
      · subst e; have := b1 z hz; rw [p6] at this; cases this
      · exact e
def putR : List TFeedItem → TFeedItem → List TFeedItem × Bool
  | [], x => ([x], true)
  | y :: l, x => if l23Ahead y x = true then (y :: (putR l x).1, (putR l x).2) else if l23Ahead x y = true then (x :: y :: l, true) else (y :: l, decide (y = x))
theorem AS4 {x : TFeedItem} : ∀ {l : List TFeedItem} {k : Nat}, k ≤ l.length → (∀ i y, i < k → l[i]? = some y → l23Ahead y x = true) → putR l x = (l.take k ++ (putR (l.drop k) x).1, (putR (l.drop k) x).2)
  | l, 0, _, _ => by simp
  | [], k + 1, h, _ => by simp at h
  | y :: l, k + 1, h, g => by
    rw [putR, if_pos (g 0 y (by omega) rfl), AS4 (l := l) (k := k) (by simpa using h) fun i z hi hz => g (i + 1) z (by omega) (by simpa using hz)]
    rfl
theorem putR_end {x : TFeedItem} {l : List TFeedItem} {k : Nat} (h : k ≤ l.length) (g : ∀ i y, i < k → l[i]? = some y → l23Ahead y x = true) (he : ∀ y, l[k]? = some y → l23Ahead x y = true) (hn : ∀ y, l[k]? = some y → l23Ahead y x = false) : putR l x = (l.take k ++ x :: l.drop k, true) := by
  rw [AS4 h g]
  by_cases hk : k < l.length
  · obtain ⟨y, hy⟩ := get_some hk
    rw [drop_some hy, putR, if_neg (by rw [hn y hy]; decide), if_pos (he y hy)]
  · rw [List.drop_eq_nil_of_le (by omega)]; rfl
theorem Au7 {x y : TFeedItem} {l : List TFeedItem} {k : Nat} (h : k ≤ l.length) (g : ∀ i y, i < k → l[i]? = some y → l23Ahead y x = true) (hy : l[k]? = some y) (he : l23Ahead x y = false) (hn : l23Ahead y x = false) : putR l x = (l, decide (y = x)) := by
  rw [AS4 h g, drop_some hy, putR, if_neg (by rw [hn]; decide), if_neg (by rw [he]; decide)]
  show (l.take k ++ (y :: l.drop (k + 1)), decide (y = x)) = _
  rw [← drop_some hy, List.take_append_drop]
theorem AC7 (x : TFeedItem) : ∀ l : List TFeedItem, (putR l x).1.length ≤ l.length + 1
  | [] => Nat.le_refl _
  | y :: l => by
    have := AC7 x l
    rw [putR]
    split
    · show (putR l x).1.length + 1 ≤ l.length + 1 + 1; omega
    · split
      · exact Nat.le_refl _
      · exact Nat.le_succ _
theorem Ad0 (x : TFeedItem) : ∀ l : List TFeedItem, ∀ z ∈ (putR l x).1, z ∈ l ∨ z = x
  | [], z, h => by simp [putR] at h; exact .inr h
  | y :: l, z, h => by
    rw [putR] at h
    split at h
    · rcases List.mem_cons.1 h with rfl | h
      · exact .inl List.mem_cons_self
      · exact (Ad0 x l z h).imp (List.mem_cons_of_mem _) id
    · split at h
      · rcases List.mem_cons.1 h with rfl | h
        · exact .inr rfl
        · exact .inl h
      · exact .inl h
theorem AS5 {x : TFeedItem} : ∀ {l : List TFeedItem}, Srt l → (putR l x).2 = true → Srt (putR l x).1 ∧ ∀ z, z ∈ (putR l x).1 ↔ z ∈ l ∨ z = x
  | [], _, _ => ⟨by unfold Srt putR; simp, fun z => by simp [putR]⟩
  | y :: l, h, g => by
    obtain ⟨k1, k2⟩ := List.pairwise_cons.1 h
    rw [putR] at g ⊢
    by_cases h1 : l23Ahead y x = true
    · rw [if_pos h1] at g ⊢
      obtain ⟨i1, i2⟩ := AS5 k2 g
      refine ⟨List.pairwise_cons.2 ⟨fun z hz => ?_, i1⟩, fun z => ?_⟩
      · rcases (i2 z).1 hz with hz | rfl
        · exact k1 z hz
        · exact h1
      · show z ∈ y :: (putR l x).1 ↔ _
        rw [List.mem_cons, i2, List.mem_cons, or_assoc]
    · rw [if_neg h1] at g ⊢
      by_cases h2 : l23Ahead x y = true
      · rw [if_pos h2] at g ⊢
        refine ⟨List.pairwise_cons.2 ⟨fun z hz => ?_, h⟩, fun z => ?_⟩
        · rcases List.mem_cons.1 hz with rfl | hz
          · exact h2
          · exact i8 _ _ _ h2 (k1 z hz)
        · show z ∈ x :: y :: l ↔ _
          rw [List.mem_cons, or_comm]
      · rw [if_neg h2] at g ⊢
        have e : y = x := by simpa using g
        subst e
        refine ⟨h, fun z => ?_⟩
        show z ∈ y :: l ↔ _
        constructor
        · exact .inl
        · rintro (hz | rfl)
          · exact hz
          · exact List.mem_cons_self
theorem AS6 {x : TFeedItem} : ∀ {l : List TFeedItem}, (putR l x).2 = false → ∃ y ∈ l, y ≠ x ∧ l23Ahead y x = false ∧ l23Ahead x y = false
  | [], g => by simp [putR] at g
  | y :: l, g => by
    rw [putR] at g
    by_cases h1 : l23Ahead y x = true
    · rw [if_pos h1] at g
      obtain ⟨z, z1, z2⟩ := AS6 (l := l) g
      exact ⟨z, List.mem_cons_of_mem _ z1, z2⟩
    · rw [if_neg h1] at g
      by_cases h2 : l23Ahead x y = true
      · rw [if_pos h2] at g; cases g
      · rw [if_neg h2] at g
        exact ⟨y, List.mem_cons_self, by simpa using g, by simpa using h1, by simpa using h2⟩
def mergeAll : List TFeedItem → List TFeedItem → Option (List TFeedItem)
  | o, [] => some o
  | o, x :: r => if (putR o x).2 = true then mergeAll (putR o x).1 r else none
def mergeF (a b : List TFeedItem) : List TFeedItem × Bool :=
  if l23Feed a = true ∧ l23Feed b = true then (match mergeAll a b with | some o => if 400 < o.length then ([], false) else (o, true) | none => ([], false)) else ([], false)
theorem AY2 {l o b : List TFeedItem} {i : Nat} {x : TFeedItem} (h : mergeAll l b = mergeAll o (b.drop i)) (hx : b[i]? = some x) (k : (putR o x).2 = true) : mergeAll l b = mergeAll (putR o x).1 (b.drop (i + 1)) := by
  rw [h, drop_some hx, mergeAll, if_pos k]
theorem AY3 {l o b : List TFeedItem} {i : Nat} {x : TFeedItem} (h : mergeAll l b = mergeAll o (b.drop i)) (hx : b[i]? = some x) (k : (putR o x).2 = false) : mergeAll l b = none := by
  rw [h, drop_some hx, mergeAll, if_neg (by rw [k]; decide)]
theorem Ad1 {l o b : List TFeedItem} {i : Nat} (h : mergeAll l b = mergeAll o (b.drop i)) (hi : b.length ≤ i) : mergeAll l b = some o := by
  rw [h, List.drop_eq_nil_of_le hi]; rfl
theorem q9 : ∀ {b a r : List TFeedItem}, Srt a → mergeAll a b = some r → Srt r ∧ (∀ z, z ∈ r ↔ z ∈ a ∨ z ∈ b) ∧ r.length ≤ a.length + b.length
  | [], a, r, h, e => by injection e with e; subst e; exact ⟨h, fun z => by simp, Nat.le_refl _⟩
  | x :: b, a, r, h, e => by
    rw [mergeAll] at e
    split at e
    · rename_i hk
      obtain ⟨k1, k2⟩ := AS5 h hk
      obtain ⟨i1, i2, i3⟩ := q9 k1 e
      refine ⟨i1, fun z => ?_, ?_⟩
      · rw [i2, k2, List.mem_cons, or_assoc]
      · have := AC7 x a; rw [K0]; omega
    · cases e
theorem AE3 : ∀ {b a : List TFeedItem}, mergeAll a b = none → ∃ x y, (x ∈ a ∨ x ∈ b) ∧ (y ∈ a ∨ y ∈ b) ∧ x ≠ y ∧ l23Ahead x y = false ∧ l23Ahead y x = false
  | [], a, e => by cases e
  | x :: b, a, e => by
    rw [mergeAll] at e
    split at e
    · obtain ⟨u, v, hu, hv, hh⟩ := AE3 e
      have : ∀ z, z ∈ (putR a x).1 ∨ z ∈ b → z ∈ a ∨ z ∈ x :: b := fun z hz => by
        rcases hz with hz | hz
        · rcases Ad0 x a z hz with hz | rfl
          · exact .inl hz
          · exact .inr List.mem_cons_self
        · exact .inr (List.mem_cons_of_mem _ hz)
      exact ⟨u, v, this u hu, this v hv, hh⟩
    · rename_i hk
      obtain ⟨y, y1, y2, y3, y4⟩ := AS6 (l := a) (x := x) (by simpa using hk)
      exact ⟨y, x, .inl y1, .inr List.mem_cons_self, y2, y3, y4⟩
theorem Ad2 (a b : List TFeedItem) : mergeF a b = ([], false) ∨ ∃ r, mergeF a b = (r, true) ∧ l23Feed a = true ∧ l23Feed b = true ∧ mergeAll a b = some r ∧ r.length ≤ 400 := by
  unfold mergeF
  split
  · rename_i h
    cases e : mergeAll a b with
    | none => exact .inl rfl
    | some r =>
      show (if 400 < r.length then ([], false) else (r, true)) = _ ∨ ∃ q, (if 400 < r.length then ([], false) else (r, true)) = _ ∧ _
      split
      · exact .inl rfl
      · exact .inr ⟨r, rfl, h.1, h.2, rfl, by omega⟩
  · exact .inl rfl
end Go.M

namespace Go.Proofs
open Go.Shelf
def Tryz.sortItemsF_ren : Go.Shelf.Ren := ⟨fun | 6 => 63 | 15 => 102 | 14 => 101 | 28 => 157 | 29 => 158 | 20 => 149 | 21 => 150 | 22 => 151 | 23 => 152 | 24 => 153 | 25 => 154 | 26 => 155 | 27 => 156 | 46 => 193 | 47 => 194 | 48 => 195 | 49 => 196 | 50 => 197 | 57 => 222 | n => n, fun | 22 => 36 | 24 => 63 | 25 => 96 | 3 => 3 | 39 => 158 | 0 => 0 | 53 => 200 | 55 => 112 | 4 => 4 | 46 => 194 | 45 => 193 | 50 => 24 | 5 => 5 | 9 => 9 | 66 => 228 | 70 => 232 | 76 => 251 | 77 => 252 | n => n, fun | n => n⟩
theorem Tryz.sortItemsF : Go.Proofs.SlLaysF0.n6 Tryz.prog Tryz.sortItemsF_ren := {
  mixed := by kernel_rfl
  f6 := ⟨Tryz.f63.name, by decide, Tryz.func63.trans (congrArg some (by kernel_rfl))⟩
  f14 := ⟨Tryz.f101.name, by decide, Tryz.func101.trans (congrArg some (by kernel_rfl))⟩
  f15 := Tryz.func102.trans (congrArg some (by kernel_rfl))
  f20 := ⟨Tryz.f149.name, by decide, Tryz.func149.trans (congrArg some (by kernel_rfl))⟩
  f21 := ⟨Tryz.f150.name, by decide, Tryz.func150.trans (congrArg some (by kernel_rfl))⟩
  f22 := ⟨Tryz.f151.name, by decide, Tryz.func151.trans (congrArg some (by kernel_rfl))⟩
  f23 := ⟨Tryz.f152.name, by decide, Tryz.func152.trans (congrArg some (by kernel_rfl))⟩
  f24 := ⟨Tryz.f153.name, by decide, Tryz.func153.trans (congrArg some (by kernel_rfl))⟩
  f25 := ⟨Tryz.f154.name, by decide, Tryz.func154.trans (congrArg some (by kernel_rfl))⟩
  f26 := ⟨Tryz.f155.name, by decide, Tryz.func155.trans (congrArg some (by kernel_rfl))⟩
  f27 := ⟨Tryz.f156.name, by decide, Tryz.func156.trans (congrArg some (by kernel_rfl))⟩
  f28 := Tryz.func157.trans (congrArg some (by kernel_rfl))
  f29 := Tryz.func158.trans (congrArg some (by kernel_rfl))
  f46 := ⟨Tryz.f193.name, by decide, Tryz.func193.trans (congrArg some (by kernel_rfl))⟩
  f47 := Tryz.func194.trans (congrArg some (by kernel_rfl))
  f48 := Tryz.func195.trans (congrArg some (by kernel_rfl))
  f49 := ⟨Tryz.f196.name, by decide, Tryz.func196.trans (congrArg some (by kernel_rfl))⟩
  f50 := ⟨Tryz.f197.name, by decide, Tryz.func197.trans (congrArg some (by kernel_rfl))⟩
  f57 := ⟨Tryz.f222.name, by decide, Tryz.func222.trans (congrArg some (by kernel_rfl))⟩
  t0 := Tryz.underlying0
  a0 := Tryz.isAgg0
  z0 := Tryz.sizeOf0
  v0 := Tryz.zeroValue0
  t3 := T6
  a3 := D1
  z3 := B9
  v3 := Tryz.zeroValue3
  t4 := O6
  a4 := I9
  z4 := G3
  v4 := Tryz.zeroValue4
  t5 := Tryz.underlying5
  a5 := Tryz.isAgg5
  z5 := Tryz.sizeOf5
  v5 := Tryz.zeroValue5
  t9 := J0
  a9 := E6
  z9 := D2
  v9 := Tryz.zeroValue9
  t22 := E5
  a22 := Tryz.isAgg36
  z22 := Tryz.sizeOf36
  v22 := Tryz.zeroValue36
  t25 := Tryz.underlying96
  a25 := Tryz.isAgg96
  z25 := Tryz.sizeOf96
  v25 := Tryz.zeroValue96
  t39 := Tryz.underlying158
  a39 := Tryz.isAgg158
  z39 := Tryz.sizeOf158
  v39 := Tryz.zeroValue158
  t45 := Tryz.underlying193
  a45 := Tryz.isAgg193
  z45 := Tryz.sizeOf193
  v45 := Tryz.zeroValue193
  t46 := Tryz.underlying194
  a46 := Tryz.isAgg194
  z46 := Tryz.sizeOf194
  v46 := Tryz.zeroValue194
  t50 := Tryz.underlying24
  a50 := Tryz.isAgg24
  z50 := Tryz.sizeOf24
  v50 := Tryz.zeroValue24
  t53 := Tryz.underlying200
  a53 := Tryz.isAgg200
  z53 := Tryz.sizeOf200
  v53 := Tryz.zeroValue200
  t55 := Tryz.underlying112
  a55 := Tryz.isAgg112
  z55 := Tryz.sizeOf112
  v55 := Tryz.zeroValue112
  t66 := Tryz.underlying228
  a66 := Tryz.isAgg228
  z66 := Tryz.sizeOf228
  v66 := Tryz.zeroValue228
  t70 := Tryz.underlying232
  a70 := Tryz.isAgg232
  z70 := Tryz.sizeOf232
  v70 := Tryz.zeroValue232
  t76 := Tryz.underlying251
  a76 := Tryz.isAgg251
  z76 := Tryz.sizeOf251
  v76 := Tryz.zeroValue251
  t77 := Tryz.underlying252
  a77 := Tryz.isAgg252
  z77 := Tryz.sizeOf252
  v77 := Tryz.zeroValue252 }
end Go.Proofs

namespace Go.AV
open Go.Sort Go.Shelf Go.Proofs
theorem AO5 {α : Type} {k : Nat} (hk0 : 0 < k) {enc : α → List Value} (hk : ∀ x, (enc x).length = k) : ∀ (l : List α) (t : Nat), ((l.map enc).flatten)[t]? = (l[t / k]?).bind fun x => (enc x)[t % k]?
  | [], t => by simp
  | x :: l, t => by
    rw [List.map_cons, List.flatten_cons]
    by_cases ht : t < k
    · rw [List.getElem?_append_left (by rw [hk]; exact ht), Nat.div_eq_of_lt ht, Nat.mod_eq_of_lt ht]; rfl
    · rw [List.getElem?_append_right (by rw [hk]; omega), hk, AO5 hk0 hk l (t - k)]
      have h1 : t / k = (t - k) / k + 1 := Nat.div_eq_sub_div hk0 (by omega)
      have h2 : t % k = (t - k) % k := Nat.mod_eq_sub_mod (by omega)
      rw [h1, h2, getZs]
theorem m6 {α : Type} {k : Nat} {enc : α → List Value} (hk : ∀ x, (enc x).length = k) : ∀ l : List α, ((l.map enc).flatten).length = l.length * k
  | [] => by simp
  | x :: l => by rw [List.map_cons, List.flatten_cons, I5, hk, m6 hk l, K0, Nat.succ_mul]; omega
theorem AO6 {α : Type} [Inhabited α] {k : Nat} (hk0 : 0 < k) {enc : α → List Value} (hk : ∀ x, (enc x).length = k) (l : List α) : flatK enc k l.toArray = ((l.map enc).flatten).toArray := by
  apply Array.ext
  · rw [size_flatK]; simp only [List.size_toArray]; rw [m6 hk]
  · intro t h1 h2
    rw [size_flatK] at h1
    simp only [List.size_toArray] at h1 h2
    have e1 := get_flatK enc k l.toArray t (by simpa using h1)
    have hd : t / k < l.length := (Nat.div_lt_iff_lt_mul hk0).2 h1
    have e2 := AO5 hk0 hk l t
    rw [List.getElem?_eq_getElem hd] at e2
    have hm : t % k < (enc l[t / k]).length := by rw [hk]; exact Nat.mod_lt _ hk0
    rw [Option.bind_some, List.getElem?_eq_getElem hm] at e2
    rw [getElem!_pos _ t (by rw [size_flatK]; simpa using h1)] at e1
    rw [e1]
    have e3 : l.toArray[t / k]! = l[t / k] := by rw [getElem!_pos _ _ (by simpa using hd)]; simp
    have e5 : (enc l[t / k])[t % k]! = (enc l[t / k])[t % k] := getElem!_pos (enc l[t / k]) (t % k) hm
    rw [e3, e5]
    have e4 : ((l.map enc).flatten).toArray[t] = ((l.map enc).flatten)[t] := by simp
    rw [e4]
    rw [List.getElem?_eq_getElem h2] at e2
    injection e2 with e2; exact e2.symm
section
variable {P : Program} {f : FuncId} {t : TypeId} {α : Type} [Inhabited α]
theorem row_ownK (k : Nat) (hk0 : 0 < k) (enc : α → List Value) (hk : ∀ x, (enc x).length = k) (h1c : ∀ x, ∀ v ∈ enc x, v.oneCell' = true) (c : α → List AV) (hc : ∀ x, c x = (enc x).map AV.is) (fv : Value) (Post : List α → List α → Prop) (hlen : ∀ l l', Post l l' → l'.length = l.length)
    (v : Value) (l : List α) (hl : l.length < 4611686018427387904) (hnil : l = [] → Post [] [])
    (h1 : ∀ (blk cap : Nat) (w : World), HoldsK enc k w blk 0 l.toArray → blk < w.heap.size →
      Calls P f #[.slice (some ⟨blk, 0, none⟩) l.length cap, fv] w fun e w' => e = .returned (.tuple #[]) ∧ ∃ (l' : List α) (n : Nat) (os : Array Obj), Post l l' ∧ w' = sortWorldK enc k w blk 0 n l'.toArray os)
    (h0 : ∀ (p : Option Addr) (cap : Nat) (w : World), Calls P f #[.slice p 0 cap, fv] w fun e w' => e = .returned (.tuple #[]) ∧ w' = w) :
    GSpec P f [AV.is v, AV.is fv] [.arr v t k (l.map c)] (fun l' => Post l l') (fun l' => [.arr v t k (l'.map c)]) (fun _ => AV.tup []) := by
  intro R w vs hr hd hok hnd
  have hvs : vs = [v, fv] := by
    obtain ⟨hlen, hval⟩ := hd
    match vs, hlen, hval with
    | [a, b], _, hval => rw [show a = v from hval 0 a (AV.is v) rfl rfl, show b = fv from hval 1 b (AV.is fv) rfl rfl]
  subst hvs
  have ho := hok _ (List.mem_singleton.2 rfl)
  obtain ⟨hR, hsz, xs, hown, hden⟩ := ho
  have hxs : xs = (l.map enc).flatten := by
    rw [An5 hc] at hden
    exact An3 hden
  rw [A6] at hown
  rcases hown.2 with ⟨hv, hn⟩ | ⟨g, cap, cur, hv, _, hg, hnc, hcm, hcs, htk⟩
  · have hl0 : l = [] := List.length_eq_zero_iff.1 hn
    subst hv; subst hl0
    refine (h0 none 0 w).mono ?_
    rintro e w' ⟨rfl, rfl⟩
    exact ⟨[], _, R, hnil rfl, rfl, ⟨[], rfl, DenV.nil _⟩, AV2 hr (hok _ (List.mem_singleton.2 rfl))⟩
  · subst hv
    have hgl : g < w.heap.size := (Array.getElem?_eq_some_iff.1 hg).1
    have hfl := AO6 hk0 hk l
    have hfs := m6 hk l
    have hH : HoldsK enc k w g 0 l.toArray := fun j hj => by
      rw [size_flatK] at hj
      have hj' : j < ((l.map enc).flatten).length := by rw [hfs]; simpa using hj
      have h9 : cur.toList[j]? = some ((l.map enc).flatten)[j] := by
        rw [← List.getElem?_take_of_lt (by rw [hfs] at hj'; exact hj'), htk, hxs, List.getElem?_eq_getElem hj']
      refine ⟨?_, by simp [World.frozen?, hg]⟩
      simp only [World.cell?, hg, Nat.zero_add]
      simp only [Option.isSome_none, Bool.false_eq_true, if_false]
      rw [← Array.getElem?_toList, h9, hfl]
      refine congrArg some ?_
      show _ = ((l.map enc).flatten).toArray[j]!
      rw [getElem!_pos _ j (by simpa using hj')]
      simp
    refine (h1 g cap w hH hgl).mono ?_
    rintro e w' ⟨rfl, l', n, os, hp, rfl⟩
    have hll := hlen l l' hp
    have hfl' := AO6 hk0 hk l'
    have hfs' := m6 hk l'
    refine ⟨l', _, R, hp, rfl, ⟨[], rfl, DenV.nil _⟩, ?_⟩
    have hgb : w.grownBy (sortWorldK enc k w g 0 n l'.toArray os) (some g) := by
      refine ⟨rfl, rfl, rfl, by simp [sortWorldK, putRowK], fun q hq hne => ?_⟩
      unfold sortWorldK
      rw [heap_grow_old _ _ (by simpa [putRowK] using hq)]
      have h9 : g ≠ q := fun e => hne (by rw [e])
      simp [putRowK, putRow, mapBlock, Sort.ahead, Array.getElem?_modify, h9]
    have hheap : (sortWorldK enc k w g 0 n l'.toArray os).heap[g]? = some (.cells (putCells id 0 ((l'.map enc).flatten).toArray cur) t (0, 0)) := by
      unfold sortWorldK
      rw [heap_grow_old _ _ (by simpa [putRowK] using hgl)]
      simp [putRowK, putRow, mapBlock, Sort.ahead, Array.getElem?_modify, hg, onCells, hfl']
    refine Ac6 (g := g) (xs := (l'.map enc).flatten) rfl hr (hR g rfl) hgb ?_ ?_ ?_
    · rw [A6, hll]
      refine ⟨by rw [hfs', hll], .inr ⟨g, cap, _, rfl, Nat.zero_le _, hheap, hnc, hcm, by simp [putCells, hcs], ?_⟩⟩
      apply List.ext_getElem?
      intro j
      by_cases hj : j < l.length * k
      · rw [List.getElem?_take_of_lt (by omega), Array.getElem?_toList]
        have h8 : j < ((l'.map enc).flatten).length := by rw [hfs', hll]; exact hj
        have h7 : j < cur.size := by
          have := congrArg List.length htk
          have h6 : cur.toList.length = cur.size := Array.length_toList
          rw [F8, hxs, hfs] at this; omega
        simp only [putCells, Array.getElem?_mapIdx, Array.getElem?_eq_getElem h7, Option.map_some, Nat.zero_le, true_and, Nat.zero_add, List.size_toArray, h8, if_true, Nat.sub_zero]
        rw [getElem!_pos _ j (by simpa using h8), List.getElem?_eq_getElem h8]; simp
      · rw [List.getElem?_take_eq_none (by omega), List.getElem?_eq_none (by rw [hfs', hll]; omega)]
    · rw [An5 hc]
      exact An4 fun y hy => by
        obtain ⟨m, hm, hy⟩ := List.mem_flatten.1 hy
        obtain ⟨x, _, rfl⟩ := List.mem_map.1 hm
        exact h1c x y hy
    · intro e he; obtain ⟨x, _, rfl⟩ := List.mem_map.1 he; rw [hc, A6, hk]
end
end Go.AV
namespace Go.Proofs.YtkegepoihkhihaaGreat
open Go Go.AV Go.M
open Go.Sort Go.Shelf Go.Proofs
theorem s4 (x y : TFeedItem) : ltOf M.compareItems x y = l23Ahead x y := congrFun (congrFun lt_ahead x) y
theorem Au8 : SWO (ltOf M.compareItems) where
  irrefl x := by rw [s4]; exact p6 x
  trans x y z h1 h2 := by rw [s4] at *; exact i8 _ _ _ h1 h2
  ntrans x y z h1 h2 := by rw [s4] at *; exact Au6.ntr z y x h2 h1
theorem Au9 {l : List TFeedItem} {d : Array TFeedItem} (h : PermIn 0 l.toArray.size l.toArray d) : d.toList.Perm l := by
  obtain ⟨h1, _, h3⟩ := h
  have e1 : d.extract 0 l.toArray.size = d := by rw [← h1]; simp
  have e2 : l.toArray.extract 0 l.toArray.size = l.toArray := by simp
  rw [e1, e2] at h3
  simpa using h3
theorem Ai9 {l : List TFeedItem} {d : Array TFeedItem} (hs : d.size = l.toArray.size) (h : SortedIn (ltOf M.compareItems) 0 l.toArray.size d) : SortedOn l23Ahead d.toList 0 d.toList.length := by
  intro i j x y _ hij hj hx hy
  have hj2 : j < d.size := by simpa using hj
  have h9 := h i j (Nat.zero_le _) hij (by rw [← hs]; exact hj2)
  rw [s4, getElem!_pos d i (by omega), getElem!_pos d j hj2] at h9
  rw [Array.getElem?_toList, Array.getElem?_eq_getElem (by omega)] at hx
  rw [Array.getElem?_toList, Array.getElem?_eq_getElem hj2] at hy
  injection hx with hx; injection hy with hy
  rw [← hx, ← hy]; exact h9
theorem AB1 (v : Value) (l : List TFeedItem) (hl : l.length ≤ 1048576) : GSpec Tryz.prog 63 [AV.is v, AV.fn 64] [.arr v 63 5 (l.map TFeedItem.cs)]
    (fun l' : List TFeedItem => l'.Perm l ∧ SortedOn l23Ahead l' 0 l'.length) (fun l' => [.arr v 63 5 (l'.map TFeedItem.cs)]) (fun _ => AV.tup []) :=
  row_ownK 5 (by decide) encItem (fun _ => rfl) (fun x v hv => by
      simp only [encItem, List.mem_cons, List.not_mem_nil, or_false] at hv
      rcases hv with rfl | rfl | rfl | rfl | rfl <;> rfl) TFeedItem.cs (fun _ => rfl) (.func (.func 64) #[] #[]) (fun l l' => l'.Perm l ∧ SortedOn l23Ahead l' 0 l'.length) (fun l l' h => h.1.length_eq) v l (by omega)
    (fun _ => ⟨List.Perm.refl _, fun i j x y _ _ hj => by simp at hj⟩)
    (fun blk cap w hH hblk => by
      have eg : ∀ args w, (callFunc 64 args).run Tryz.prog w = .ok (.enter 64 args) w := enters_of Tryz.func64 (by kernel_rfl) rfl
      have hcon := AnyQ.slices_SortFunc Tryz.sortItemsF 5 P6 G0 encItem (fun _ => rfl) (fun x v hv => by
        simp only [encItem, List.mem_cons, List.not_mem_nil, or_false] at hv
        rcases hv with rfl | rfl | rfl | rfl | rfl <;> rfl) M.compareItems Au8 64 #[] blk 0 cap l.toArray w eg (fun _ _ _ _ x y => AG1 x y _) hH hblk (by simp; omega)
      refine Calls.mono (show Calls Tryz.prog 63 _ _ _ from hcon) ?_
      rintro e w' ⟨rfl, d', n, os, hp, hs, rfl⟩
      exact ⟨rfl, d'.toList, n, os, ⟨Au9 hp, Ai9 hp.1 hs⟩, rfl⟩)
    (fun p cap w => AnyF.slices_SortFunc_none { Tryz.sortItemsF with } p cap _ w)
end Go.Proofs.YtkegepoihkhihaaGreat

namespace Go.M
structure TSrc where
  at' : Nat
  bad : Bool
end Go.M

namespace Go.M
end Go.M

namespace Go.M
open Go.AV
def isTxnR (n : Int) : Bool := within n 1 60
def bareR (r : TRec) : Bool := ((r.Lead == 0) && ((r.Reads.length : Int) == 0)) && ((r.Writes.length : Int) == 0)
def good1 (r : TRec) : Bool := (((((((isTxnR r.Txn && isTime r.Time) && within r.Lead 0 3) && decide ((r.Reads.length : Int) ≤ 8)) && areRising r.Reads) && decide ((r.Writes.length : Int) ≤ 8)) && goodWrites r.Writes) && decide (0 < (r.Reads.length : Int) + (r.Writes.length : Int))) && !r.Yes
def good2 (r : TRec) : Bool := (bareR r && isTxnR r.Txn) && ((r.Yes && isTime r.Time) || (!r.Yes && (r.Time == 0)))
def good4 (r : TRec) : Bool := ((bareR r && (r.Txn == 0)) && isTime r.Time) && !r.Yes
def goodRec (r : TRec) : Bool := if r.Kind = 1 then good1 r else if r.Kind = 2 ∨ r.Kind = 3 then good2 r else if r.Kind = 4 then good4 r else false
def l4Keys (l : List Str) : Bool := (l.all l3Key && adj Op.bytesLess l) && decide ((l.length : Int) ≤ 8)
def oddR (r : TRec) : Bool := (r.Kind != 1) && ((r.Lead != 0) || decide (0 < (r.Reads.length : Int) + (r.Writes.length : Int)))
def l4G1 (r : TRec) : Bool := ((((((within r.Txn 1 60 && within r.Time 1 100000) && within r.Lead 0 3) && l4Keys r.Reads) && l3Writes r.Writes) && within (r.Writes.length : Int) 0 8) && decide (0 < (r.Reads.length : Int) + (r.Writes.length : Int))) && !r.Yes
def l4G2 (r : TRec) : Bool := within r.Txn 1 60 && ((r.Yes && within r.Time 1 100000) || (!r.Yes && (r.Time == 0)))
def l4G4 (r : TRec) : Bool := (((r.Kind == 4) && (r.Txn == 0)) && within r.Time 1 100000) && !r.Yes
def l4Good (r : TRec) : Bool := if oddR r = true then false else if r.Kind = 1 then l4G1 r else if r.Kind = 2 ∨ r.Kind = 3 then l4G2 r else l4G4 r
theorem bare_odd {r : TRec} (h : r.Kind ≠ 1) : bareR r = !oddR r := by
  have hk : (r.Kind != 1) = true := by simpa using h
  unfold bareR oddR
  rw [hk, Bool.true_and, Bool.eq_iff_iff]
  simp only [Bool.and_eq_true, beq_iff_eq, Bool.not_eq_true', Bool.or_eq_false_iff, bne_eq_false_iff_eq, decide_eq_false_iff_not]
  omega
theorem keys_eq (l : List Str) : (decide ((l.length : Int) ≤ 8) && areRising l) = l4Keys l := by
  unfold areRising l4Keys
  rw [show l.all goodKey = l.all l3Key by congr 1; funext s; rw [m4]]
  rw [Bool.and_comm]
theorem Aq3 (r : TRec) : goodRec r = l4Good r := by
  unfold goodRec l4Good
  by_cases h1 : r.Kind = 1
  · have ho : oddR r = false := by unfold oddR; rw [h1]; rfl
    rw [if_pos h1, ho, if_neg (by decide), if_pos h1]
    unfold good1 l4G1
    rw [← keys_eq, ← AE2]
    have hw : within (r.Writes.length : Int) 0 8 = decide ((r.Writes.length : Int) ≤ 8) := by unfold within; simp
    rw [hw]
    unfold isTxnR isTime
    cases within r.Txn 1 60 <;> cases within r.Time 1 100000 <;> cases within r.Lead 0 3 <;> cases decide ((r.Reads.length : Int) ≤ 8) <;> cases areRising r.Reads <;> cases decide ((r.Writes.length : Int) ≤ 8) <;> cases goodWrites r.Writes <;> simp
  · have hb := bare_odd h1
    rw [if_neg h1, if_neg h1]
    by_cases h2 : r.Kind = 2 ∨ r.Kind = 3
    · rw [if_pos h2, if_pos h2]
      unfold good2 l4G2
      rw [hb]
      cases oddR r <;> simp [isTxnR, isTime]
    · rw [if_neg h2, if_neg h2]
      unfold l4G4
      by_cases h4 : r.Kind = 4
      · rw [if_pos h4]
        unfold good4
        rw [hb, h4]
        cases oddR r <;> simp [isTime]
      · rw [if_neg h4]
        have e4 : (r.Kind == 4) = false := by simpa using h4
        rw [e4]; cases oddR r <;> simp
structure GoodR (r : TRec) : Prop where
  kind : 1 ≤ r.Kind ∧ r.Kind ≤ 4
  txn : 0 ≤ r.Txn ∧ r.Txn ≤ 60
  time : 0 ≤ r.Time ∧ r.Time ≤ 100000
  lead : 0 ≤ r.Lead ∧ r.Lead ≤ 3
  reads : r.Reads.length ≤ 8 ∧ ∀ s ∈ r.Reads, l3Key s = true
  writes : r.Writes.length ≤ 8 ∧ ∀ w ∈ r.Writes, l3Key w.Key = true ∧ l3Val w.Val = true ∧ (w.Gone = true → w.Val = [])
theorem AV8 {r : TRec} (h : bareR r = true) : r.Lead = 0 ∧ r.Reads = [] ∧ r.Writes = [] := by
  unfold bareR at h
  simp only [Bool.and_eq_true, beq_iff_eq] at h
  exact ⟨h.1.1, List.eq_nil_of_length_eq_zero (by omega), List.eq_nil_of_length_eq_zero (by omega)⟩
theorem goodR {r : TRec} (h : goodRec r = true) : GoodR r := by
  unfold goodRec at h
  split at h
  · rename_i hk
    unfold good1 isTxnR isTime within at h
    simp only [Bool.and_eq_true, decide_eq_true_eq] at h
    obtain ⟨⟨⟨⟨⟨⟨⟨⟨h1, h2⟩, h3⟩, h4⟩, h5⟩, h6⟩, h7⟩, _⟩, _⟩ := h
    rw [AE2] at h7
    unfold l3Writes at h7
    unfold areRising at h5
    simp only [Bool.and_eq_true, List.all_eq_true] at h5 h7
    refine ⟨by omega, by omega, by omega, by omega, ⟨by omega, fun s hs => by rw [← m4]; exact h5.1 s hs⟩, ⟨by omega, fun w hw => ?_⟩⟩
    have := h7.1.1 w hw
    unfold wGood l3Write at this
    simp only [Bool.and_eq_true, Bool.or_eq_true, Bool.not_eq_true'] at this
    exact ⟨this.1.1, this.1.2, fun e => by rcases this.2 with g | g; rw [e] at g; cases g; simpa using g⟩
  · split at h
    · rename_i hk
      unfold good2 isTxnR isTime within at h
      simp only [Bool.and_eq_true, Bool.or_eq_true, decide_eq_true_eq, beq_iff_eq, Bool.not_eq_true'] at h
      obtain ⟨⟨h1, h2⟩, h3⟩ := h
      obtain ⟨l1, l2, l3⟩ := AV8 h1
      refine ⟨by omega, by omega, by omega, by omega, by rw [l2]; exact ⟨Nat.zero_le _, fun s hs => by cases hs⟩, by rw [l3]; exact ⟨Nat.zero_le _, fun s hs => by cases hs⟩⟩
    · split at h
      · rename_i hk
        unfold good4 isTime within at h
        simp only [Bool.and_eq_true, decide_eq_true_eq, beq_iff_eq, Bool.not_eq_true'] at h
        obtain ⟨⟨⟨h1, h2⟩, h3⟩, _⟩ := h
        obtain ⟨l1, l2, l3⟩ := AV8 h1
        refine ⟨by omega, by omega, by omega, by omega, by rw [l2]; exact ⟨Nat.zero_le _, fun s hs => by cases hs⟩, by rw [l3]; exact ⟨Nat.zero_le _, fun s hs => by cases hs⟩⟩
      · cases h
theorem AO7 {s : Str} (h : l3Key s = true) : s.length ≤ 12 := by
  unfold l3Key within at h
  simp only [Bool.and_eq_true, decide_eq_true_eq] at h
  have := h.1; omega
theorem Aq4 {s : Str} (h : l3Val s = true) : s.length ≤ 24 := by
  unfold l3Val at h
  simp only [Bool.and_eq_true, decide_eq_true_eq] at h
  have := h.1; omega
end Go.M

namespace Go.M
open Go.AV
def SrtS (l : List Str) : Prop := l.Pairwise fun a b => Op.bytesLess a b = true
theorem Ad3 : ∀ {a b : List Str}, SrtS a → SrtS b → (∀ x, x ∈ a ↔ x ∈ b) → a = b
  | [], [], _, _, _ => rfl
  | [], y :: b, _, _, h => by have := (h y).2 List.mem_cons_self; cases this
  | x :: a, [], _, _, h => by have := (h x).1 List.mem_cons_self; cases this
  | x :: a, y :: b, ha, hb, h => by
    obtain ⟨a1, a2⟩ := List.pairwise_cons.1 ha
    obtain ⟨b1, b2⟩ := List.pairwise_cons.1 hb
    have asym : ∀ {u v : Str}, Op.bytesLess u v = true → Op.bytesLess v u = true → False := fun h k => by
      have := Q2 h k; rw [M4] at this; cases this
    have e : x = y := by
      rcases List.mem_cons.1 ((h x).1 List.mem_cons_self) with e | e
      · exact e
      · rcases List.mem_cons.1 ((h y).2 List.mem_cons_self) with f | f
        · exact f.symm
        · exact (asym (b1 x e) (a1 y f)).elim
    subst e
    rw [Ad3 a2 b2 fun z => ?_]
    constructor
    · intro hz
      rcases List.mem_cons.1 ((h z).1 (List.mem_cons_of_mem _ hz)) with e | e
      · subst e; have := a1 z hz; rw [M4] at this; cases this
      · exact e
    · intro hz
      rcases List.mem_cons.1 ((h z).2 (List.mem_cons_of_mem _ hz)) with e | e
      · subst e; have := b1 z hz; rw [M4] at this; cases this
      · exact e
def sortS (l : List Str) : List Str := l.mergeSort fun x y => decide (x ≤ y)
theorem le_less (x y : Str) : decide (x ≤ y) = !Op.bytesLess y x := by
  rw [Go.Proofs.bytesLess_eq]
  by_cases h : y < x
  · simp [h, List.not_le.2 h]
  · simp [h, List.not_lt.1 h]
theorem Av0 (l : List Str) (z : Str) : z ∈ sortS l ↔ z ∈ l := (List.mergeSort_perm l _).mem_iff
theorem AV9 (l : List Str) : (sortS l).length = l.length := List.length_mergeSort l
theorem Aq5 (l : List Str) : (sortS l).Pairwise fun a b => Op.bytesLess b a = false := by
  have h := List.pairwise_mergeSort (le := fun x y : Str => decide (x ≤ y)) (fun a b c h1 h2 => by
    simp only [decide_eq_true_eq] at *; exact List.le_trans h1 h2) (fun a b => by
    simp only [Bool.or_eq_true, decide_eq_true_eq]; exact List.le_total a b) l
  refine h.imp fun {a b} hab => ?_
  rw [le_less] at hab
  simpa using hab
theorem x7 {l : List Str} {z : Str} : ∀ {n : Nat}, z ∈ cmpN l n ↔ ∃ i, i < n ∧ l[i]? = some z
  | 0 => by constructor
            · intro h; cases h
            · rintro ⟨i, h, _⟩; omega
  | n + 1 => by
    show z ∈ (if n ≠ 0 ∧ l[n]? = l[n - 1]? then cmpN l n else cmpN l n ++ (l[n]?).toList) ↔ _
    split
    · rename_i h
      rw [x7]
      constructor
      · exact fun ⟨i, h1, h2⟩ => ⟨i, by omega, h2⟩
      · intro ⟨i, h1, h2⟩
        by_cases e : i = n
        · subst e; exact ⟨i - 1, by omega, h.2 ▸ h2⟩
        · exact ⟨i, by omega, h2⟩
    · rw [List.mem_append, x7, Option.mem_toList]
      constructor
      · rintro (⟨i, h1, h2⟩ | h)
        · exact ⟨i, by omega, h2⟩
        · exact ⟨n, by omega, h⟩
      · intro ⟨i, h1, h2⟩
        by_cases e : i = n
        · subst e; exact .inr h2
        · exact .inl ⟨i, by omega, h2⟩
theorem Av1 (l : List Str) (z : Str) : z ∈ cmpL l ↔ z ∈ l := by
  unfold cmpL
  rw [x7]
  constructor
  · exact fun ⟨i, _, h⟩ => H5 h
  · intro h
    obtain ⟨i, hi⟩ := List.getElem?_of_mem h
    exact ⟨i, (List.getElem?_eq_some_iff.1 hi).1, hi⟩
theorem AM3 {l : List Str} (hs : l.Pairwise fun a b => Op.bytesLess b a = false) {i j : Nat} {x y : Str} (hij : i < j) (hx : l[i]? = some x) (hy : l[j]? = some y) : Op.bytesLess y x = false := by
  obtain ⟨h1, e1⟩ := List.getElem?_eq_some_iff.1 hx
  obtain ⟨h2, e2⟩ := List.getElem?_eq_some_iff.1 hy
  have := List.pairwise_iff_getElem.1 hs i j h1 h2 hij
  rw [e1, e2] at this; exact this
theorem AW0 {l : List Str} (hs : l.Pairwise fun a b => Op.bytesLess b a = false) : ∀ {n : Nat}, n ≤ l.length → SrtS (cmpN l n)
  | 0, _ => List.Pairwise.nil
  | n + 1, hn => by
    have ih := AW0 hs (n := n) (by omega)
    show SrtS (if n ≠ 0 ∧ l[n]? = l[n - 1]? then cmpN l n else cmpN l n ++ (l[n]?).toList)
    split
    · exact ih
    · rename_i h
      obtain ⟨x, hx⟩ := get_some (show n < l.length by omega)
      rw [hx]
      refine List.pairwise_append.2 ⟨ih, List.pairwise_singleton _ _, fun z hz w hw => ?_⟩
      simp at hw; subst hw
      obtain ⟨i, hi, hzi⟩ := x7.1 hz
      have h1 := AM3 hs hi hzi hx
      rcases x5 z w with e | e | e
      · exact e
      · exfalso
        subst e
        apply h
        refine ⟨by omega, ?_⟩
        by_cases f : i = n - 1
        · rw [hx, ← f, hzi]
        · obtain ⟨v, hv⟩ := get_some (show n - 1 < l.length by omega)
          have h3 := AM3 hs (show n - 1 < n by omega) hv hx
          have h4 := AM3 hs (show i < n - 1 by omega) hzi hv
          rw [hx, hv]
          rcases x5 z v with g | g | g
          · rw [g] at h3; cases h3
          · rw [g]
          · rw [g] at h4; cases h4
      · rw [h1] at e; cases e
def keysI (l : List Str) : List Str := cmpL (sortS l)
theorem Av2 (l : List Str) : SrtS (keysI l) := AW0 (Aq5 l) (Nat.le_refl _)
theorem Av3 (l : List Str) (z : Str) : z ∈ keysI l ↔ z ∈ l := by unfold keysI; rw [Av1, Av0]
def putS : List Str → Str → List Str
  | [], s => [s]
  | y :: l, s => if Op.bytesLess s y = true then s :: y :: l else if y = s then y :: l else y :: putS l s
theorem Ad4 {s : Str} : ∀ {l : List Str}, SrtS l → SrtS (putS l s) ∧ ∀ z, z ∈ putS l s ↔ z ∈ l ∨ z = s
  | [], _ => ⟨by unfold SrtS putS; simp, fun z => by simp [putS]⟩
  | y :: l, h => by
    obtain ⟨h1, h2⟩ := List.pairwise_cons.1 h
    unfold putS
    split
    · rename_i hs
      refine ⟨List.pairwise_cons.2 ⟨fun z hz => ?_, h⟩, fun z => ?_⟩
      · rcases List.mem_cons.1 hz with rfl | hz
        · exact hs
        · exact Q2 hs (h1 z hz)
      · rw [List.mem_cons, or_comm]
    · rename_i hs
      split
      · rename_i e
        subst e
        refine ⟨h, fun z => ⟨.inl, ?_⟩⟩
        rintro (hz | rfl)
        · exact hz
        · exact List.mem_cons_self
      · rename_i e
        obtain ⟨i1, i2⟩ := Ad4 (s := s) h2
        have hys : Op.bytesLess y s = true := by
          rcases x5 y s with g | g | g
          · exact g
          · exact absurd g e
          · exact absurd g hs
        refine ⟨List.pairwise_cons.2 ⟨fun z hz => ?_, i1⟩, fun z => ?_⟩
        · rcases (i2 z).1 hz with hz | rfl
          · exact h1 z hz
          · exact hys
        · rw [List.mem_cons, i2, List.mem_cons, or_assoc]
theorem Ad5 (s : Str) : ∀ l : List Str, (putS l s).length ≤ l.length + 1
  | [] => Nat.le_refl _
  | y :: l => by
    have := Ad5 s l
    unfold putS
    split
    · exact Nat.le_refl _
    · split
      · exact Nat.le_succ _
      · rw [K0, K0]; omega
def putAllS (l : List Str) (o : List Str) : List Str := l.foldl putS o
theorem o5 : ∀ {l o : List Str}, SrtS o → SrtS (putAllS l o) ∧ ∀ z, z ∈ putAllS l o ↔ z ∈ o ∨ z ∈ l
  | [], o, h => ⟨h, fun z => by simp [putAllS]⟩
  | s :: l, o, h => by
    obtain ⟨h1, h2⟩ := Ad4 (s := s) h
    obtain ⟨i1, i2⟩ := o5 (l := l) h1
    refine ⟨i1, fun z => ?_⟩
    show z ∈ putAllS l (putS o s) ↔ _
    rw [i2, h2, List.mem_cons, or_assoc]
theorem Av4 (l : List Str) : keysI l = putAllS l [] := by
  obtain ⟨h1, h2⟩ := o5 (l := l) (o := []) List.Pairwise.nil
  exact Ad3 (Av2 l) h1 fun z => by rw [Av3, h2]; simp
theorem AW1 {s : Str} : ∀ {l : List Str} {k : Nat}, SrtS l → k ≤ l.length → (∀ i y, k ≤ i → l[i]? = some y → Op.bytesLess s y = true) → (∀ y, 0 < k → l[k - 1]? = some y → Op.bytesLess s y = false ∧ y ≠ s) → putS l s = l.take k ++ s :: l.drop k
  | [], k, _, hk, _, _ => by have : k = 0 := by simpa using hk
                             subst this; rfl
  | y :: l, 0, _, _, h, _ => by
    unfold putS
    rw [if_pos (h 0 y (Nat.le_refl _) rfl)]; rfl
  | y :: l, k + 1, hs, hk, h, g => by
    obtain ⟨h1, h2⟩ := List.pairwise_cons.1 hs
    have hy : Op.bytesLess s y = false ∧ y ≠ s := by
      cases k with
      | zero => exact g y (by omega) rfl
      | succ k =>
        obtain ⟨z, hz⟩ := get_some (show k < l.length by simp at hk; omega)
        have hgz := g z (by omega) (by simpa using hz)
        have hyz := h1 z (H5 hz)
        refine ⟨?_, fun e => ?_⟩
        · cases e : Op.bytesLess s y with
          | false => rfl
          | true => have := Q2 e hyz; rw [hgz.1] at this; cases this
        · subst e; rw [hyz] at hgz; cases hgz.1
    unfold putS
    rw [if_neg (by rw [hy.1]; decide), if_neg hy.2, AW1 h2 (by simpa using hk) (fun i z hi hz => h (i + 1) z (by omega) (by simpa using hz)) (fun z hz hz2 => g z (by omega) (by
      cases k with
      | zero => omega
      | succ k => simpa using hz2))]
    rfl
theorem AO8 {s : Str} : ∀ {l : List Str} {k : Nat}, SrtS l → l[k]? = some s → putS l s = l
  | y :: l, 0, hs, h => by
    simp at h; subst h
    unfold putS
    rw [if_neg (by rw [M4]; decide), if_pos rfl]
  | y :: l, k + 1, hs, h => by
    obtain ⟨h1, h2⟩ := List.pairwise_cons.1 hs
    have h3 : l[k]? = some s := by simpa using h
    have hy := h1 s (H5 h3)
    unfold putS
    rw [if_neg (fun e => by have := Q2 e hy; rw [M4] at this; cases this), if_neg (fun e => by rw [e, M4] at hy; cases hy), AO8 h2 h3]
  | [], k, hs, h => by simp at h
theorem AG5 (l o : List Str) (s : Str) : putAllS (l ++ [s]) o = putS (putAllS l o) s := by
  unfold putAllS; rw [List.foldl_append]; rfl
theorem AA2 : ∀ (l o : List Str), (putAllS l o).length ≤ o.length + l.length
  | [], o => Nat.le_refl _
  | s :: l, o => by
    have h1 := AA2 l (putS o s)
    have h2 := Ad5 s o
    show (putAllS l (putS o s)).length ≤ _
    rw [K0]; omega
end Go.M
