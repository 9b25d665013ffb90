/- Plain functions: feed items and feeds. -/
import Derived.Test.YteliahajeokciaaMoveP1
set_option linter.unusedVariables false
namespace Go.M
/-- Each element and the one before it. -/
def adj {α : Type} (p : α → α → Bool) : List α → Bool
  | [] => true
  | [_] => true
  | x :: y :: l => p x y && adj p (y :: l)
theorem drop_two {α : Type} {l : List α} {k : Nat} {x y : α} (hy : l[k]? = some y) (hx : l[k + 1]? = some x) : l.drop k = y :: x :: l.drop (k + 2) := by
  rw [Go.AV.drop_some hy, Go.AV.drop_some hx]
theorem adj_step {α : Type} {p : α → α → Bool} {l : List α} {i : Nat} {x y : α} (hx : l[i]? = some x) (hy : l[i - 1]? = some y) (h : 0 < i → p y x = true) : adj p (l.drop (i - 1)) = adj p (l.drop (i + 1 - 1)) := by
  cases i with
  | zero => rfl
  | succ k =>
    simp only [Nat.add_sub_cancel] at *
    rw [drop_two hy hx, Go.AV.drop_some hx, adj, h (by omega), Bool.true_and]
theorem adj_stop {α : Type} {p : α → α → Bool} {l : List α} {i : Nat} {x y : α} (hx : l[i]? = some x) (hy : l[i - 1]? = some y) (h0 : 0 < i) (h : p y x = false) : adj p (l.drop (i - 1)) = false := by
  cases i with
  | zero => omega
  | succ k =>
    simp only [Nat.add_sub_cancel] at *
    rw [drop_two hy hx, adj, h, Bool.false_and]
theorem adj_end {α : Type} {p : α → α → Bool} {l : List α} {i : Nat} (h : l.length ≤ i) : adj p (l.drop (i - 1)) = true := by
  have hl : (l.drop (i - 1)).length ≤ 1 := by rw [List.length_drop]; omega
  match hd : l.drop (i - 1), hl with
  | [], _ => rfl
  | [x], _ => rfl
theorem adj_congr {α : Type} {p q : α → α → Bool} (h : ∀ a b, p a b = q a b) : ∀ l : List α, adj p l = adj q l
  | [] => rfl
  | [_] => rfl
  | x :: y :: l => by rw [adj, adj, h, adj_congr h (y :: l)]
def isTime (t : Int) : Bool := within t 1 100000
def isGroup (g : Int) : Bool := within g 0 3
def isStored (val : Str) (gone : Bool) : Bool := goodVal val && !(gone && val != [])
def goodItem (c : TFeedItem) : Bool := isTime c.Time && isGroup c.Group && goodKey c.Key && isStored c.Val c.Gone
def l3Val (s : Str) : Bool := decide ((s.length : Int) ≤ 24) && l3Bytes s [46, 45, 44, 95]
def l3Write (key val : Str) (gone : Bool) : Bool := l3Key key && l3Val val && (!gone || val == [])
def l23Good (c : TFeedItem) : Bool := within c.Time 1 100000 && within c.Group 0 3 && l3Write c.Key c.Val c.Gone
def cmpInt (x y : Int) : Int := if x < y then -1 else if y < x then 1 else 0
def cmpStr (x y : Str) : Int := if Op.bytesLess x y then -1 else if Op.bytesLess y x then 1 else 0
def orInt : List Int → Int
  | [] => 0
  | x :: l => if x = 0 then orInt l else x
def compareItems (a b : TFeedItem) : Int := orInt [cmpInt a.Time b.Time, cmpInt a.Group b.Group, cmpStr a.Key b.Key]
def l23Ahead (a b : TFeedItem) : Bool := if a.Time ≠ b.Time then decide (a.Time < b.Time) else if a.Group ≠ b.Group then decide (a.Group < b.Group) else Op.bytesLess a.Key b.Key
def isFeed (l : List TFeedItem) : Bool := adj (fun a b => !decide (0 ≤ compareItems a b)) l && decide ((l.length : Int) ≤ 400)
def goodFeed (l : List TFeedItem) : Bool := isFeed l && !(l.any fun c => !goodItem c)
def l23Feed (l : List TFeedItem) : Bool := (l.all l23Good && adj l23Ahead l) && decide ((l.length : Int) ≤ 400)
theorem goodVal_eq (s : Str) : goodVal s = l3Val s := by unfold goodVal l3Val; rw [hasB_eq]
theorem isStored_eq (s : Str) (g : Bool) : isStored s g = (l3Val s && (!g || s == [])) := by
  unfold isStored; rw [goodVal_eq]; cases g <;> simp [bne]
theorem goodItem_eq (c : TFeedItem) : goodItem c = l23Good c := by
  unfold goodItem l23Good l3Write isTime isGroup
  rw [isStored_eq, goodKey_eq]; simp only [Bool.and_assoc]
theorem compare_ahead (a b : TFeedItem) : (!decide (0 ≤ compareItems a b)) = l23Ahead a b := by
  unfold compareItems l23Ahead orInt orInt orInt orInt cmpInt cmpStr
  have := bytesLess_tri a.Key b.Key
  by_cases h1 : a.Time < b.Time
  · simp [h1, show a.Time ≠ b.Time by omega]
  · by_cases h2 : b.Time < a.Time
    · simp [h1, h2, show a.Time ≠ b.Time by omega]
    · have h3 : a.Time = b.Time := by omega
      by_cases h4 : a.Group < b.Group
      · simp [h3, h4, show a.Group ≠ b.Group by omega]
      · by_cases h5 : b.Group < a.Group
        · simp [h3, h4, h5, show a.Group ≠ b.Group by omega]
        · have h6 : a.Group = b.Group := by omega
          simp only [h3, h6, Int.lt_irrefl, ne_eq, not_true_eq_false, if_false, if_true]
          cases h7 : Op.bytesLess a.Key b.Key <;> cases h8 : Op.bytesLess b.Key a.Key <;> simp
theorem goodFeed_eq (l : List TFeedItem) : goodFeed l = l23Feed l := by
  unfold goodFeed l23Feed isFeed
  rw [adj_congr compare_ahead, show (!(l.any fun c => !goodItem c)) = l.all l23Good by
    rw [List.not_any_eq_all_not]; congr 1; funext c; rw [Bool.not_not, goodItem_eq]]
  cases l.all l23Good <;> cases adj l23Ahead l <;> simp
end Go.M
