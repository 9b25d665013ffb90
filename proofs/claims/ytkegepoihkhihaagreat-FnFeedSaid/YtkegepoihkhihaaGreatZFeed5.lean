/- Texts of the claim, part 5. -/
import Derived.RangeFuncNested
import Derived.RangeFuncBound
import Derived.RangeFuncCalls
import Derived.RangeFuncLeaves
import Derived.RangeFuncBox
import Derived.Shelf.Abstract
import Derived.Shelf.RegionOpen
import Derived.WalkKit
import Derived.OwnWalkIn
import Derived.TacticsInMore
import Derived.LoopNIn
import Derived.LoopIn
import Derived.ProofKit
import Derived.OpenShut
import Derived.ShutString
import Derived.ChangeOld
import Derived.Sort.Grow
import Derived.Lib.LaidTab
import Derived.Lib.ItoaNum
import Derived.Lib.Split
import Derived.Lib.SplitLaws
import Derived.Lib.ConvBytes
import Derived.WideLaws
import Derived.SizedLaws
import Derived.StillTailTactics
import Derived.Deep.QuietTactic
import Derived.Shelf.SlSortCmp.WholeK
import Derived.Shelf.SlSortCmp.NoneTotal
import Derived.Test.YtkegepoihkhihaaGreatProg
import Derived.Test.YtkegepoihkhihaaGreatZFeed4

set_option linter.unusedVariables false
set_option linter.unusedSimpArgs false
set_option maxRecDepth 100000
set_option maxHeartbeats 1000000
namespace Go.M
open Go.AV
theorem fullC_at {l : List TCell} {k : Str} {c : TCell} (hc : ¬ atC l k < 0 → findC l k = some c) : fullC l k = (decide ((0 : Int) ≤ atC l k) && decide ((16 : Int) ≤ (c.Vers.length : Int))) := by
  unfold fullC
  by_cases h : atC l k < 0
  · rw [Au4 h, decide_eq_false (by omega)]; rfl
  · rw [hc h, decide_eq_true (by omega), Bool.true_and]
    dsimp only
    rw [decide_eq_decide]; omega
theorem at_some (l : List TCell) (k : Str) : ∃ c : TCell, ¬ atC l k < 0 → (∃ p : Nat, atC l k = (p : Int) ∧ l[p]? = some c) ∧ findC l k = some c := by
  by_cases h : atC l k < 0
  · exact ⟨⟨[], []⟩, fun k => absurd h k⟩
  · obtain ⟨p, c, h1, h2, h3⟩ := Au5 h
    exact ⟨c, fun _ => ⟨⟨p, h1, h2⟩, h3⟩⟩
theorem u7 {s : TState} {i : Nat} {h y : THeld} (hx : s.Held[i]? = some h) (hy : s.Held[i - 1]? = some y) : heldAt s i = (!((!l4Good (hRec h) || decide (s.Floor < h.Time)) || (decide ((0 : Int) < (i : Int)) && decide (h.Txn ≤ y.Txn))) && ((s.Held.take i).all (fun g => apart g h.Reads h.Writes) && h.Writes.all fun w => decide (lastTime s.Cells w.Key < h.Time))) := by
  rw [r8 hx hy, AG0]
  have h2 : ((s.Held.take i).all fun g => apart g h.Reads h.Writes) = !((s.Held.take i).any fun g => clash h g) := by
    rw [List.not_any_eq_all_not]; congr 1; funext g; rw [AQ1, Bool.not_not]
  have h3 : (h.Writes.all fun w => decide (lastTime s.Cells w.Key < h.Time)) = !(h.Writes.any fun w => decide (h.Time ≤ lastTime s.Cells w.Key)) := by
    rw [List.not_any_eq_all_not]; congr 1; funext w; rw [← decide_not, decide_eq_decide]; omega
  rw [h2, h3]
theorem AH5 {s : TState} {i : Nat} {t y : TTold} (hx : s.Told[i]? = some t) (hy : s.Told[i - 1]? = some y) : toldAt s i = (!((((!within t.Txn 1 60 || (decide ((0 : Int) < (i : Int)) && decide (t.Txn ≤ y.Txn))) || (t.Yes && !within t.Time 1 s.Floor)) || (!t.Yes && (t.Time != 0)))) && !hasH s.Held t.Txn) := by
  rw [AB2 hx hy]
  congr 2
  show ((!within t.Txn 1 60 || _) || _) = _
  have e : (!((t.Yes && within t.Time 1 s.Floor) || (!t.Yes && (t.Time == 0)))) = ((t.Yes && !within t.Time 1 s.Floor) || (!t.Yes && (t.Time != 0))) := by
    show _ = ((t.Yes && !within t.Time 1 s.Floor) || (!t.Yes && !(t.Time == 0)))
    cases t.Yes <;> simp
  rw [e]
  cases within t.Txn 1 60 <;> cases (decide ((0 : Int) < (i : Int)) && decide (t.Txn ≤ y.Txn)) <;> cases (t.Yes && !within t.Time 1 s.Floor) <;> cases (!t.Yes && (t.Time != 0)) <;> rfl
def heldFO (l : List THeld) (n : Int) : THeld × Bool := match findH l n with | some h => (h, true) | none => (zHeld, false)
def toldFO (l : List TTold) (n : Int) : TTold × Bool := match findT l n with | some h => (h, true) | none => (zTold, false)
theorem AM2 (l : List THeld) (n : Int) : (heldFO l n).2 = hasH l n := by
  unfold heldFO
  cases h : findH l n with
  | none => exact (AW1.1 h).symm
  | some x => obtain ⟨h1, h2⟩ := l7 h; exact (hasH_iff.2 ⟨x, h1, h2⟩).symm
theorem BD0 (l : List TTold) (n : Int) : (toldFO l n).2 = hasT l n := by
  unfold toldFO
  cases h : findT l n with
  | none => exact (Ay8.1 h).symm
  | some x =>
    unfold findT at h
    exact (hasT_iff.2 ⟨x, List.mem_of_find?_eq_some h, by simpa using List.find?_some h⟩).symm
theorem AH6 {α : Type} {p : α → Bool} : ∀ {l : List α} {i : Nat} {x : α}, l[i]? = some x → p x = true → (∀ j y, j < i → l[j]? = some y → p y = false) → l.find? p = some x
  | [], i, x, h, _, _ => by simp at h
  | y :: l, 0, x, h, hp, _ => by simp at h; subst h; rw [List.find?_cons, hp]
  | y :: l, i + 1, x, h, hp, hn => by
    rw [List.find?_cons, hn 0 y (by omega) rfl]
    exact AH6 (by simpa using h) hp fun j z hj hz => hn (j + 1) z (by omega) (by simpa using hz)
theorem An1 {α : Type} {p : α → Bool} {l : List α} (hn : ∀ (j : Nat) (y : α), l[j]? = some y → p y = false) : l.find? p = none := by
  rw [List.find?_eq_none]
  intro x hx
  obtain ⟨j, hj⟩ := List.getElem?_of_mem hx
  rw [hn j x hj]; decide
end Go.M
namespace Go.Proofs.YtkegepoihkhihaaGreat
open Go Go.AV Go.M
attribute [local irreducible] OpW OpA OpS AWP FSpec ESpec GSpec OpE RetOk RetOkG RvDen Le Ev GuardIs SrcIs Int.tmod Int.tdiv IntKind.wrap
theorem Ah4 (h : THeld) : FSpec Tryz.prog 177 [AV.agg h.cs] (AV.agg (hRec h).cs) := by
 refine D8 Tryz.func177 rfl Tryz.ntmps177 rfl ?_
 refine A3 (A2 ?_)
 refine L6 rfl rfl rfl rfl (A0 rfl) ?_
 intro b1
 refine H3 rfl rfl rfl rfl Tryz.zeroValue104 rfl ?_
 intro b2
 refine A4 (A3 (A2 ?_))
 refine A1 rfl (B2 0 rfl E8 rfl B9 (A0 rfl) rfl) ?_
 refine A1 rfl (B0 1 rfl (A0 rfl) rfl C1 rfl) ?_
 refine A1 rfl (B2 1 rfl E8 rfl B9 (A0 rfl) rfl) ?_
 refine A1 rfl (B0 1 rfl (A0 rfl) rfl C1 rfl) ?_
 refine A1 rfl (B2 2 rfl E8 rfl B9 (A0 rfl) rfl) ?_
 refine A1 rfl (B0 1 rfl (A0 rfl) rfl C1 rfl) ?_
 refine A1 rfl (B2 3 rfl E8 rfl N3 (A0 rfl) rfl) ?_
 refine A1 rfl (B0 1 rfl (A0 rfl) rfl P7 rfl) ?_
 refine A1 rfl (B2 4 rfl E8 rfl K4 (A0 rfl) rfl) ?_
 refine A1 rfl (B0 1 rfl (A0 rfl) rfl L2 rfl) ?_
 refine A1 rfl (O6 (places := #[(0, 1), (1, 1), (2, 1), (3, 1), (4, 1), (5, 1), (6, 1)]) rfl C0 Tryz.zeroValue104 (fun w => by kernel_rfl) rfl (F4 B5 (P2 _ _) (F4 (A0 rfl) (P2 _ _) (F4 (A0 rfl) (P2 _ _) (F4 (A0 rfl) (P2 _ _) (F4 (A0 rfl) (U1 _ _) (F4 (A0 rfl) (U1 _ _) J5)))))) rfl) ?_
 refine E9 0 rfl rfl rfl (A0 rfl) (A0 rfl) (F9 _) rfl N5 rfl ?_
 refine A4 ?_
 refine C2 ?_
 exact G1 rfl (Q2 (ys := _) 0 rfl rfl Y7 N5 rfl)
theorem AW7 (l : List TWrite) (k : Str) : FSpec Tryz.prog 214 [AV.list 3 (l.map TWrite.cs), AV.str k] (AV.bool (hasK l k)) := by
 refine D8 Tryz.func214 rfl Tryz.ntmps214 rfl ?_
 refine Q6 (t := 0) rfl fun hl => ?_
 try simp only [A9] at hl
 refine A3 (A2 ?_)
 refine A1 rfl (B3 rfl F0) ?_
 refine A4 (A3 (A3 (A2 ?_)))
 refine A5 rfl ?_
 refine A1 rfl (G5 rfl F7 (A0 rfl)) ?_
 refine A1 rfl (B7 rfl B5) ?_
 refine A4 (D0 ?_)
 refine H4 [(1, _), (7, _), (8, _)] _ (fun (i : Nat) => i ≤ l.length ∧ hasK l k = (l.drop i).any (fun w => w.Key == k)) (fun (i : Nat) => []) (fun (i : Nat) => [(9, AV.int i)]) (fun (i : Nat) => l.length - i) (0) ?_ (H8 ⟨rfl, rfl, rfl, rfl, trivial⟩) ?_
 ·exact ⟨Nat.zero_le _, rfl⟩
 intro i hinv
 refine A3 (A2 ?_)
 refine A1 rfl (I4 rfl (A0 rfl) (A0 rfl)) ?_
 refine A4 (A3 ?_)
 refine C3 (A0 rfl) ?_ ?_
 ·intro h10
  have k10 := of_decide_eq_true h10; try simp only [A9] at k10
  have hlt : i < l.length := by omega
  obtain ⟨x, hx⟩ := get_some hlt
  refine C8 (A3 (D0 (A3 (A2 ?_))))
  refine A1 rfl (H5 rfl F7 I2 (A0 rfl) (A0 rfl) hx (by first | omega | (simp only [D1, A7, szR] at *; omega))) ?_
  refine A1 rfl (J0 rfl (A0 rfl) S7 I2) ?_
  refine H3 rfl rfl rfl rfl Tryz.zeroValue101 rfl ?_
  intro b6
  refine E9 0 rfl rfl rfl (A0 rfl) (A0 rfl) (F9 _) rfl I2 rfl ?_
  refine A4 (A3 (A2 ?_))
  refine A1 rfl (B2 0 rfl I0 rfl E3 (A0 rfl) rfl) ?_
  refine A1 rfl (B0 0 rfl (A0 rfl) rfl F5 rfl) ?_
  refine A5 rfl ?_
  refine A1 rfl (p8 rfl (A0 rfl) (A0 rfl)) ?_
  refine A4 ?_
  refine C3 (A0 rfl) ?_ ?_
  ·intro h16
   refine A3 (A2 ?_)
   refine A1 rfl (B3 rfl F0) ?_
   refine A4 ?_
   refine C2 ?_
   exact G1 rfl (B8 rfl (by first | exact congrArg AV.bool (by rw [hinv.2, drop_some hx, List.any_cons, h16]; rfl) | exact congrArg AV.bool (by rw [hinv.2, List.drop_eq_nil_of_le hge]; rfl)))
  intro h16
  refine C8 (A2 ?_)
  refine A1 rfl (F6 rfl (A0 rfl) B5 (by first | omega | (simp only [D1, A7, szR] at *; omega))) ?_
  refine A5 rfl ?_
  refine A4 ?_
  refine J3 i (i + 1) ?_ ?_ (S0 1 ⟨rfl, rfl, rfl, rfl, trivial⟩)
  ·exact ⟨by omega, by rw [hinv.2, drop_some hx, List.any_cons, h16]; rfl⟩
  omega
 intro h10
 have k10 := of_decide_eq_false h10; try simp only [A9] at k10
 have hge : l.length ≤ i := by omega
 refine G0 ?_
 refine A3 (A2 ?_)
 refine A1 rfl (B3 rfl F0) ?_
 refine A4 ?_
 refine C2 ?_
 exact G1 rfl (B8 rfl (by first | exact congrArg AV.bool (by rw [hinv.2, drop_some hx, List.any_cons, h16]; rfl) | exact congrArg AV.bool (by rw [hinv.2, List.drop_eq_nil_of_le hge]; rfl)))
theorem Ay9 (l : List Str) (k : Str) : FSpec Tryz.prog 215 [strs l, AV.str k] (AV.bool (hasS l k)) := by
 refine D8 Tryz.func215 rfl Tryz.ntmps215 rfl ?_
 refine Q6 (t := 0) rfl fun hl => ?_
 try simp only [A9] at hl
 refine A3 (A2 ?_)
 refine A1 rfl (B3 rfl F0) ?_
 refine A4 (A3 (A3 (A2 ?_)))
 refine A5 rfl ?_
 refine A1 rfl (G5 rfl E5 (A0 rfl)) ?_
 refine A1 rfl (B7 rfl B5) ?_
 refine A4 (D0 ?_)
 refine H4 [(1, _), (7, _), (8, _)] _ (fun (i : Nat) => i ≤ l.length ∧ hasS l k = (l.drop i).any (fun x => k == x)) (fun (i : Nat) => []) (fun (i : Nat) => [(9, AV.int i)]) (fun (i : Nat) => l.length - i) (0) ?_ (H8 ⟨rfl, rfl, rfl, rfl, trivial⟩) ?_
 ·exact ⟨Nat.zero_le _, rfl⟩
 intro i hinv
 refine A3 (A2 ?_)
 refine A1 rfl (I4 rfl (A0 rfl) (A0 rfl)) ?_
 refine A4 (A3 ?_)
 refine C3 (A0 rfl) ?_ ?_
 ·intro h10
  have k10 := of_decide_eq_true h10; try simp only [A9] at k10
  have hlt : i < l.length := by omega
  obtain ⟨x, hx⟩ := get_some hlt
  refine C8 (A3 (D0 (A3 (A2 ?_))))
  refine A1 rfl (H5 rfl E5 E3 (A0 rfl) (A0 rfl) hx (by first | omega | (simp only [D1, A7, szR] at *; omega))) ?_
  refine A1 rfl (L3 rfl (A0 rfl) F5 rfl) ?_
  refine B4 rfl ?_
  refine A4 (A3 (A2 ?_))
  refine A5 rfl ?_
  refine A5 rfl ?_
  refine A1 rfl (p8 rfl (A0 rfl) (A0 rfl)) ?_
  refine A4 ?_
  refine C3 (A0 rfl) ?_ ?_
  ·intro h15
   refine A3 (A2 ?_)
   refine A1 rfl (B3 rfl F0) ?_
   refine A4 ?_
   refine C2 ?_
   exact G1 rfl (B8 rfl (by first | exact congrArg AV.bool (by rw [hinv.2, drop_some hx, List.any_cons, show (k == x) = true from by have h9 := h15; simp at h9 ⊢; exact h9.symm]; rfl) | exact congrArg AV.bool (by rw [hinv.2, List.drop_eq_nil_of_le hge]; rfl)))
  intro h15
  refine C8 (A2 ?_)
  refine A1 rfl (F6 rfl (A0 rfl) B5 (by first | omega | (simp only [D1, A7, szR] at *; omega))) ?_
  refine A5 rfl ?_
  refine A4 ?_
  refine J3 i (i + 1) ?_ ?_ (H8 ⟨rfl, rfl, rfl, rfl, trivial⟩)
  ·exact ⟨by omega, by rw [hinv.2, drop_some hx, List.any_cons, show (k == x) = false from by have h9 := h15; simp at h9 ⊢; exact fun e => h9 e.symm]; rfl⟩
  omega
 intro h10
 have k10 := of_decide_eq_false h10; try simp only [A9] at k10
 have hge : l.length ≤ i := by omega
 refine G0 ?_
 refine A3 (A2 ?_)
 refine A1 rfl (B3 rfl F0) ?_
 refine A4 ?_
 refine C2 ?_
 exact G1 rfl (B8 rfl (by first | exact congrArg AV.bool (by rw [hinv.2, drop_some hx, List.any_cons, show (k == x) = true from by have h9 := h15; simp at h9 ⊢; exact h9.symm]; rfl) | exact congrArg AV.bool (by rw [hinv.2, List.drop_eq_nil_of_le hge]; rfl)))
theorem apart_spec (h : THeld) (rs : List Str) (ws : List TWrite) : FSpec Tryz.prog 178 [AV.agg h.cs, strs rs, AV.list 3 (ws.map TWrite.cs)] (AV.bool (apart h rs ws)) := by
 refine D8 Tryz.func178 rfl Tryz.ntmps178 rfl ?_
 refine Q6 (t := 1) rfl fun hl1 => ?_
 try simp only [A9] at hl1
 refine Q6 (t := 2) rfl fun hl2 => ?_
 try simp only [A9] at hl2
 refine A3 (A2 ?_)
 refine L6 rfl rfl rfl rfl (A0 rfl) ?_
 intro b3
 refine A1 rfl (B3 rfl F0) ?_
 refine A4 (A3 (A3 (A2 ?_)))
 refine A5 rfl ?_
 refine A1 rfl (G5 rfl E5 (A0 rfl)) ?_
 refine A1 rfl (B7 rfl B5) ?_
 refine A4 (D0 ?_)
 refine H4 [(2, _), (3, _), (11, _), (12, _)] _ (fun (i : Nat) => i ≤ rs.length ∧ (rs.all fun k => !hasK h.Writes k) = ((rs.drop i).all fun k => !hasK h.Writes k)) (fun (i : Nat) => []) (fun (i : Nat) => [(13, AV.int i)]) (fun (i : Nat) => rs.length - i) (0) ?_ (H8 ⟨rfl, rfl, rfl, rfl, rfl, trivial⟩) ?_
 ·exact ⟨Nat.zero_le _, rfl⟩
 intro i hinv
 refine A3 (A2 ?_)
 refine A1 rfl (I4 rfl (A0 rfl) (A0 rfl)) ?_
 refine A4 (A3 ?_)
 refine C3 (A0 rfl) ?_ ?_
 ·intro h14
  have k14 := of_decide_eq_true h14; try simp only [A9] at k14
  have hlt : i < rs.length := by omega
  obtain ⟨x, hx⟩ := get_some hlt
  refine C8 (A3 (D0 (A3 (A2 ?_))))
  refine A1 rfl (H5 rfl E5 E3 (A0 rfl) (A0 rfl) hx (by first | omega | (simp only [D1, A7, szR] at *; omega))) ?_
  refine A1 rfl (L3 rfl (A0 rfl) F5 rfl) ?_
  refine B4 rfl ?_
  refine A4 (A3 (A2 ?_))
  refine A1 rfl (B2 4 rfl E8 rfl K4 (A0 rfl) rfl) ?_
  refine A1 rfl (B0 0 rfl (A0 rfl) rfl L2 rfl) ?_
  refine A5 rfl ?_
  refine A1 rfl (D7 rfl Tryz.call214 rfl (AW7 _ _) (A8 (A0 rfl) (A8 (A0 rfl) C6))) ?_
  refine A4 ?_
  refine C3 (A0 rfl) ?_ ?_
  ·intro h20
   have hfin : apart h rs ws = false := by (unfold apart; rw [hinv.2, drop_some hx, List.all_cons, h20]; rfl)
   refine A3 (A2 ?_)
   refine A1 rfl (B3 rfl F0) ?_
   refine A4 ?_
   refine C2 ?_
   exact G1 rfl (B8 rfl (by exact congrArg AV.bool hfin.symm))
  intro h20
  refine C8 (A2 ?_)
  refine A1 rfl (F6 rfl (A0 rfl) B5 (by first | omega | (simp only [D1, A7, szR] at *; omega))) ?_
  refine A5 rfl ?_
  refine A4 ?_
  refine J3 i (i + 1) ?_ ?_ (H8 ⟨rfl, rfl, rfl, rfl, rfl, trivial⟩)
  ·exact ⟨by omega, by rw [hinv.2, drop_some hx, List.all_cons, h20]; rfl⟩
  omega
 intro h14
 have k14 := of_decide_eq_false h14; try simp only [A9] at k14
 have hge : rs.length ≤ i := by omega
 have hr : (rs.all fun k => !hasK h.Writes k) = true := by (rw [hinv.2, List.drop_eq_nil_of_le hge]; rfl)
 refine G0 ?_
 refine A3 (A3 (A2 ?_))
 refine A5 rfl ?_
 refine A1 rfl (G5 rfl F7 (A0 rfl)) ?_
 refine A1 rfl (B7 rfl B5) ?_
 refine A4 (D0 ?_)
 refine H4 [(3, _), (22, _), (23, _)] _ (fun (q : Nat) => q ≤ ws.length ∧ (ws.all fun w => !(hasK h.Writes w.Key || hasS h.Reads w.Key)) = ((ws.drop q).all fun w => !(hasK h.Writes w.Key || hasS h.Reads w.Key))) (fun (q : Nat) => []) (fun (q : Nat) => [(24, AV.int q)]) (fun (q : Nat) => ws.length - q) (0) ?_ (H8 ⟨rfl, rfl, rfl, rfl, trivial⟩) ?_
 ·exact ⟨Nat.zero_le _, rfl⟩
 intro q hinv
 refine A3 (A2 ?_)
 refine A1 rfl (I4 rfl (A0 rfl) (A0 rfl)) ?_
 refine A4 (A3 ?_)
 refine C3 (A0 rfl) ?_ ?_
 ·intro h25
  have k25 := of_decide_eq_true h25; try simp only [A9] at k25
  have hlt : q < ws.length := by omega
  obtain ⟨x, hx⟩ := get_some hlt
  refine C8 (A3 (D0 (A3 (A2 ?_))))
  refine A1 rfl (H5 rfl F7 I2 (A0 rfl) (A0 rfl) hx (by first | omega | (simp only [D1, A7, szR] at *; omega))) ?_
  refine A1 rfl (J0 rfl (A0 rfl) S7 I2) ?_
  refine H3 rfl rfl rfl rfl Tryz.zeroValue101 rfl ?_
  intro b10
  refine E9 0 rfl rfl rfl (A0 rfl) (A0 rfl) (F9 _) rfl I2 rfl ?_
  refine A4 (A3 (A2 ?_))
  refine A1 rfl (B2 4 rfl E8 rfl K4 (A0 rfl) rfl) ?_
  refine A1 rfl (B0 1 rfl (A0 rfl) rfl L2 rfl) ?_
  refine A1 rfl (B2 0 rfl I0 rfl E3 (A0 rfl) rfl) ?_
  refine A1 rfl (B0 0 rfl (A0 rfl) rfl F5 rfl) ?_
  refine A1 rfl (D7 rfl Tryz.call214 rfl (AW7 _ _) (A8 (A0 rfl) (A8 (A0 rfl) C6))) ?_
  refine A5 rfl ?_
  refine H2 rfl (fun hc => B2 3 rfl E8 rfl N3 (A0 rfl) rfl) ?_
  refine H2 rfl (fun hc => B0 1 rfl (A6 rfl hc) rfl P7 rfl) ?_
  refine H2 rfl (fun hc => B2 0 rfl I0 rfl E3 (A0 rfl) rfl) ?_
  refine H2 rfl (fun hc => B0 0 rfl (A6 rfl hc) rfl F5 rfl) ?_
  refine H2 rfl (fun hc => D7 rfl Tryz.call215 rfl (Ay9 _ _) (A8 (A6 rfl hc) (A8 (A6 rfl hc) C6))) ?_
  refine A1 rfl (P9 rfl (A0 rfl) (F1 rfl)) ?_
  refine A4 ?_
  refine C3 (A0 rfl) ?_ ?_
  ·intro h39
   have hfin : apart h rs ws = false := by (unfold apart; rw [hinv.2, drop_some hx, List.all_cons, h39]; simp)
   refine A3 (A2 ?_)
   refine A1 rfl (B3 rfl F0) ?_
   refine A4 ?_
   refine C2 ?_
   exact G1 rfl (B8 rfl (by exact congrArg AV.bool hfin.symm))
  intro h39
  refine C8 (A2 ?_)
  refine A1 rfl (F6 rfl (A0 rfl) B5 (by first | omega | (simp only [D1, A7, szR] at *; omega))) ?_
  refine A5 rfl ?_
  refine A4 ?_
  refine J3 q (q + 1) ?_ ?_ (S0 1 ⟨rfl, rfl, rfl, rfl, trivial⟩)
  ·exact ⟨by omega, by rw [hinv.2, drop_some hx, List.all_cons, h39]; rfl⟩
  omega
 intro h25
 have k25 := of_decide_eq_false h25; try simp only [A9] at k25
 have hge : ws.length ≤ q := by omega
 have hfin : apart h rs ws = true := by (unfold apart; rw [hr, hinv.2, List.drop_eq_nil_of_le hge]; rfl)
 refine G0 ?_
 refine A3 (A2 ?_)
 refine A1 rfl (B3 rfl F0) ?_
 refine A4 ?_
 refine C2 ?_
 exact G1 rfl (B8 rfl (by exact congrArg AV.bool hfin.symm))
theorem Ar7 (l : List THeld) (q : Nat) : (hWs (l.take q)).length ≤ (hWs l).length := by
  have h := AV7 (l.take q) (l.drop q)
  rw [List.take_append_drop] at h
  rw [h, J4]; omega
theorem AW8 (s : TState) (ws : List TWrite) (hs : s.size ≤ 1048576) (hb : s.Cells.length + ws.length + (hWs s.Held).length ≤ 800000) : FSpec Tryz.prog 179 [AV.agg s.cs, AV.list 3 (ws.map TWrite.cs)] (AV.bool (room s.Cells (ws ++ hWs s.Held))) := by
 obtain ⟨hs1, hs2, hs3, hs4, hs5⟩ := U9 hs
 obtain ⟨p, hp⟩ : ∃ p : TWrite → Bool, p = fun w => !fullC s.Cells w.Key := ⟨_, rfl⟩
 obtain ⟨al, hal⟩ : ∃ al, ws ++ hWs s.Held = al := ⟨_, rfl⟩
 have hall : al.length ≤ 800000 - s.Cells.length := by rw [← hal, J4]; omega
 rw [hal]
 refine D8 Tryz.func179 rfl Tryz.ntmps179 rfl ?_
 refine A3 (A2 ?_)
 refine L6 rfl rfl rfl rfl (A0 rfl) ?_
 intro b2
 refine A1 rfl (B3 rfl F0) ?_
 refine A4 (A3 (A2 ?_))
 refine AA4 9 1 rfl rfl rfl rfl P8 ?_
 intro v5
 refine A4 (A3 (A3 (A2 ?_)))
 refine A1 rfl (B2 1 rfl D2 rfl M4 (A0 rfl) rfl) ?_
 refine A1 rfl (B0 1 rfl (A0 rfl) rfl O9 rfl) ?_
 refine A1 rfl (G5 rfl E2 (A0 rfl)) ?_
 refine A1 rfl (B7 rfl B5) ?_
 refine A4 (D0 ?_)
 refine P5 [(1, _), (2, _), (4, _), (15, _), (16, _)] _ (fun (i : Nat) (v : Value) => i ≤ s.Cells.length) (fun (i : Nat) (v : Value) => [.arr v 9 1 ((putAllS (cKeys (s.Cells.take i)) []).map fun s => [AV.str s])]) (fun (i : Nat) (v : Value) => [(5, AV.is v), (17, AV.int i)]) (fun (i : Nat) (v : Value) => s.Cells.length - i) (0) (v5) ?_ (Q3 (by rfl) ⟨rfl, rfl, rfl, rfl, rfl, rfl, rfl, trivial⟩) ?_
 ·exact Nat.zero_le _
 intro i v hinv
 refine A3 (A2 ?_)
 refine A1 rfl (I4 rfl (A0 rfl) (A0 rfl)) ?_
 refine A4 (A3 ?_)
 refine C3 (A0 rfl) ?_ ?_
 ·intro h18
  have k18 := of_decide_eq_true h18; try simp only [A9] at k18
  have hlt : i < s.Cells.length := by omega
  obtain ⟨c, hx⟩ := get_some hlt
  have hpl := AC1 (cKeys (s.Cells.take i)) []
  unfold cKeys at hpl
  simp only [A9, E6, L9] at hpl
  refine C8 (A3 (D0 (A3 (A2 ?_))))
  refine A1 rfl (H5 rfl E2 F3 (A0 rfl) (A0 rfl) hx (by first | omega | (simp only [D1, A7, szR] at *; omega))) ?_
  refine A1 rfl (J0 rfl (A0 rfl) R5 F3) ?_
  refine H3 rfl rfl rfl rfl Tryz.zeroValue125 rfl ?_
  intro b7
  refine E9 0 rfl rfl rfl (A0 rfl) (A0 rfl) (F9 _) rfl F3 rfl ?_
  refine A4 (A2 ?_)
  refine A5 rfl ?_
  refine A1 rfl (B2 0 rfl F8 rfl E3 (A0 rfl) rfl) ?_
  refine A1 rfl (B0 0 rfl (A0 rfl) rfl F5 rfl) ?_
  refine g8 [1] rfl rfl rfl rfl Tryz.call169 rfl (AW6 v (putAllS (cKeys (s.Cells.take i)) []) c.Key (p4 List.Pairwise.nil).1 (by unfold cKeys; omega)) (A8 (A0 rfl) (A8 (A0 rfl) C6)) rfl ?_
  intro x24 ok24
  refine B4 rfl ?_
  refine A4 (A2 ?_)
  refine A1 rfl (F6 rfl (A0 rfl) B5 (by first | omega | (simp only [D1, A7, szR] at *; omega))) ?_
  refine A5 rfl ?_
  refine A4 ?_
  refine M2 i v (i + 1) (x24) ?_ ?_ (Le.trans (K1 [1, 0] rfl) (M3 1 (by exact congrArg (fun z => Own.arr _ 9 1 (List.map (fun s => [AV.str s]) z) :: _) (by unfold cKeys; rw [List.take_add_one, hx, List.map_append]; exact (AK2 _ _ _).symm)) ⟨rfl, rfl, rfl, rfl, rfl, rfl, rfl, trivial⟩))
  ·omega
  omega
 intro h18
 have k18 := of_decide_eq_false h18; try simp only [A9] at k18
 have hge : s.Cells.length ≤ i := by omega
 rw [List.take_of_length_le hge]
 refine G0 ?_
 refine A3 (A2 ?_)
 refine O8 rfl rfl rfl rfl F7 I2 ?_
 intro v26
 refine A5 rfl ?_
 refine M6 (by' := 40) 0 rfl rfl rfl rfl F7 Tryz.type101 rfl rfl rfl rfl rfl rfl (A0 rfl) (A0 rfl) rfl (by simp only [L9, A9]; omega) ?_
 intro v28_1
 refine B4 rfl ?_
 refine A4 (A3 (A3 (A2 ?_)))
 refine A1 rfl (B2 2 rfl D2 rfl I6 (A0 rfl) rfl) ?_
 refine A1 rfl (B0 2 rfl (A0 rfl) rfl L8 rfl) ?_
 refine A1 rfl (G5 rfl E4 (A0 rfl)) ?_
 refine A1 rfl (B7 rfl B5) ?_
 refine A4 (D0 ?_)
 refine T5 [(2, _), (4, _), (5, _), (30, _), (31, _)] _ (fun (q : Nat) (u : Value) (a : List TWrite) => q ≤ s.Held.length ∧ a = ws ++ hWs (s.Held.take q)) (fun (q : Nat) (u : Value) (a : List TWrite) => [.arr u 101 3 (a.map TWrite.cs)]) (fun (q : Nat) (u : Value) (a : List TWrite) => [(8, AV.is u), (32, AV.int q)]) (fun (q : Nat) (u : Value) (a : List TWrite) => s.Held.length - q) (0) (v28_1) (ws) ?_ (Q3 (by rfl) ⟨rfl, rfl, rfl, rfl, rfl, rfl, rfl, trivial⟩) ?_
 ·exact ⟨Nat.zero_le _, by rw [List.take_zero]; exact (List.append_nil _).symm⟩
 intro q u a hinv
 refine A3 (A2 ?_)
 refine A1 rfl (I4 rfl (A0 rfl) (A0 rfl)) ?_
 refine A4 (A3 ?_)
 refine C3 (A0 rfl) ?_ ?_
 ·intro h33
  have k33 := of_decide_eq_true h33; try simp only [A9] at k33
  have hlt : q < s.Held.length := by omega
  obtain ⟨h, hx⟩ := get_some hlt
  obtain ⟨g1, g2, g3, g4, g5⟩ := X4 hs2 hx
  have hwt := Ar7 s.Held q
  have hal9 : a.length ≤ 800000 := by (rw [hinv.2, J4]; omega)
  refine C8 (A3 (D0 (A3 (A2 ?_))))
  refine A1 rfl (H5 rfl E4 D9 (A0 rfl) (A0 rfl) hx (by first | omega | (simp only [D1, A7, szR] at *; omega))) ?_
  refine A1 rfl (J0 rfl (A0 rfl) J9 D9) ?_
  refine H3 rfl rfl rfl rfl Tryz.zeroValue141 rfl ?_
  intro b10
  refine E9 0 rfl rfl rfl (A0 rfl) (A0 rfl) (F9 _) rfl D9 rfl ?_
  refine A4 (A2 ?_)
  refine A5 rfl ?_
  refine A1 rfl (B2 4 rfl E8 rfl K4 (A0 rfl) rfl) ?_
  refine A1 rfl (B0 0 rfl (A0 rfl) rfl L2 rfl) ?_
  refine M6 (by' := 40) 1 rfl rfl rfl rfl F7 Tryz.type101 rfl rfl rfl rfl rfl rfl (A0 rfl) (A0 rfl) rfl (by simp only [J4, A9]; omega) ?_
  intro v39_2
  refine B4 rfl ?_
  refine A4 (A2 ?_)
  refine A1 rfl (F6 rfl (A0 rfl) B5 (by first | omega | (simp only [D1, A7, szR] at *; omega))) ?_
  refine A5 rfl ?_
  refine A4 ?_
  refine S9 q u a (q + 1) (v39_2) (a ++ h.Writes) ?_ ?_ (Le.trans (K1 [0, 0] rfl) (M3 1 (by (rw [List.map_append]; rfl)) ⟨rfl, rfl, rfl, rfl, rfl, rfl, rfl, trivial⟩))
  ·exact ⟨by omega, by rw [hinv.2, Am1 hx, List.append_assoc]⟩
  omega
 intro h33
 have k33 := of_decide_eq_false h33; try simp only [A9] at k33
 have hge : s.Held.length ≤ q := by omega
 have ha9 : a = al := by (rw [hinv.2, List.take_of_length_le hge, hal])
 subst ha9
 refine G0 ?_
 refine A3 (A3 (A2 ?_))
 refine A5 rfl ?_
 refine A1 rfl (e9 0 rfl F7 (A0 rfl) rfl) ?_
 refine A1 rfl (B7 rfl B5) ?_
 refine A4 (D0 ?_)
 refine AWP.le (K1 [1] rfl) ?_
 refine T5 [(2, _), (41, _), (42, _)] _ (fun (r : Nat) (v2 : Value) (ks : List Str) => r ≤ a.length ∧ a.all p = (a.drop r).all p ∧ ks = putAllS (cKeys s.Cells ++ wKeys (a.take r)) []) (fun (r : Nat) (v2 : Value) (ks : List Str) => [.arr v2 9 1 (ks.map fun s => [AV.str s])]) (fun (r : Nat) (v2 : Value) (ks : List Str) => [(5, AV.is v2), (43, AV.int r)]) (fun (r : Nat) (v2 : Value) (ks : List Str) => a.length - r) (0) (v) (putAllS (cKeys s.Cells) []) ?_ (Q3 (by rfl) ⟨rfl, rfl, rfl, rfl, rfl, trivial⟩) ?_
 ·exact ⟨Nat.zero_le _, rfl, by rw [List.take_zero]; exact congrArg (fun z => putAllS z []) (List.append_nil _).symm⟩
 intro r v2 ks hinv
 refine A3 (A2 ?_)
 refine A1 rfl (I4 rfl (A0 rfl) (A0 rfl)) ?_
 refine A4 (A3 ?_)
 refine C3 (A0 rfl) ?_ ?_
 ·intro h44
  have k44 := of_decide_eq_true h44; try simp only [A9] at k44
  have hlt : r < a.length := by omega
  obtain ⟨w, hx⟩ := get_some hlt
  obtain ⟨c, hc0⟩ := at_some s.Cells w.Key
  have hfu := fullC_at (l := s.Cells) (k := w.Key) (c := c) (fun h9 => (hc0 h9).2)
  have hpl := AC1 (cKeys s.Cells ++ wKeys (a.take r)) []
  unfold cKeys wKeys at hpl
  simp only [J4, A9, E6, L9] at hpl
  refine C8 (A3 (D0 (A3 (A2 ?_))))
  refine A1 rfl (Y2 1 rfl F7 I2 (A0 rfl) rfl (A0 rfl) (by omega) (by try simp only [A9]; omega)) ?_
  refine A1 rfl (AO1 1 rfl (A0 rfl) rfl S7 I2 (by rw [Int.toNat_natCast, List.getElem?_map, hx]; rfl) (by decide)) ?_
  refine H3 rfl rfl rfl rfl Tryz.zeroValue101 rfl ?_
  intro b12
  refine E9 0 rfl rfl rfl (A0 rfl) (A0 rfl) (F9 _) rfl I2 rfl ?_
  refine A4 (A3 (A2 ?_))
  refine A5 rfl ?_
  refine A1 rfl (B2 0 rfl I0 rfl E3 (A0 rfl) rfl) ?_
  refine A1 rfl (B0 0 rfl (A0 rfl) rfl F5 rfl) ?_
  refine g8 [1] rfl rfl rfl rfl Tryz.call169 rfl (AW6 v2 ks w.Key (by rw [hinv.2.2]; exact (p4 List.Pairwise.nil).1) (by rw [hinv.2.2]; unfold cKeys wKeys; omega)) (A8 (A0 rfl) (A8 (A0 rfl) C6)) rfl ?_
  intro x50 ok50
  refine B4 rfl ?_
  refine A4 (A3 (A2 ?_))
  refine A1 rfl (B2 1 rfl D2 rfl M4 (A0 rfl) rfl) ?_
  refine A1 rfl (B0 3 rfl (A0 rfl) rfl O9 rfl) ?_
  refine A1 rfl (B2 0 rfl I0 rfl E3 (A0 rfl) rfl) ?_
  refine A1 rfl (B0 1 rfl (A0 rfl) rfl F5 rfl) ?_
  refine A1 rfl (D7 rfl Tryz.call180 rfl (Ae0 _ _) (A8 (A0 rfl) (A8 (A0 rfl) C6))) ?_
  refine B4 rfl ?_
  refine A4 (A3 (A2 ?_))
  refine A5 rfl ?_
  refine A1 rfl (V3 rfl (A0 rfl) B5) ?_
  refine A5 rfl ?_
  refine C4 rfl (fun hc => B2 1 rfl D2 rfl M4 (A0 rfl) rfl) ?_
  refine C4 rfl (fun hc => B0 3 rfl (A6 rfl hc) rfl O9 rfl) ?_
  refine C4 rfl (fun hc => B7 rfl (A0 rfl)) ?_
  refine C4 rfl (fun hc => d6 rfl E2 F3 (A6 rfl hc) (A6 rfl hc) (by have h9 := of_decide_eq_true hc; obtain ⟨⟨p9, e1, e2⟩, _⟩ := hc0 (by omega); have := (List.getElem?_eq_some_iff.1 e2).1; omega) (by have h9 := of_decide_eq_true hc; obtain ⟨⟨p9, e1, e2⟩, _⟩ := hc0 (by omega); rw [e1, Int.toNat_natCast, List.getElem?_map, e2]; rfl)) ?_
  refine C4 rfl (fun hc => R7 rfl F8 rfl M8 (A6 rfl hc) rfl) ?_
  refine C4 rfl (fun hc => L3 rfl (A6 rfl hc) P1 rfl) ?_
  refine C4 rfl (fun hc => G5 rfl I7 (A6 rfl hc)) ?_
  refine C4 rfl (fun hc => V3 rfl (A6 rfl hc) B5) ?_
  refine A1 rfl (G8 rfl (A0 rfl) (F1 rfl)) ?_
  refine A4 ?_
  refine C3 (A0 rfl) ?_ ?_
  ·intro h67
   have hpw : p w = false := by (rw [hp]; simp only [Bool.not_eq_false']; rw [hfu]; rw [A9] at h67; exact h67)
   have hro : room s.Cells a = false := by (unfold room; rw [show (a.all fun w => !fullC s.Cells w.Key) = false from by rw [← hp, hinv.2.1, drop_some hx, List.all_cons, hpw]; rfl]; rfl)
   refine A3 (A2 ?_)
   refine A1 rfl (B3 rfl F0) ?_
   refine A4 ?_
   refine C2 ?_
   exact G1 rfl (B8 rfl (by first | exact congrArg AV.bool hro.symm | exact congrArg AV.bool (by rw [hro]; simp only [A9]; rw [decide_eq_decide]; omega)))
  intro h67
  have hpw : p w = true := by (rw [hp]; simp only [Bool.not_eq_true']; rw [hfu]; rw [A9] at h67; exact h67)
  refine C8 (A2 ?_)
  refine A1 rfl (F6 rfl (A0 rfl) B5 (by first | omega | (simp only [D1, A7, szR] at *; omega))) ?_
  refine A5 rfl ?_
  refine A4 ?_
  refine S9 r v2 ks (r + 1) (x50) (putS ks w.Key) ?_ ?_ (Le.trans (K1 [1, 0] rfl) (M3 1 (by rfl) ⟨rfl, rfl, rfl, rfl, rfl, trivial⟩))
  ·exact ⟨by omega, by rw [hinv.2.1, drop_some hx, List.all_cons, hpw]; rfl, by rw [hinv.2.2]; unfold wKeys; rw [List.take_add_one, hx, List.map_append, ← List.append_assoc]; exact (AK2 _ _ _).symm⟩
  omega
 intro h44
 have k44 := of_decide_eq_false h44; try simp only [A9] at k44
 have hge : a.length ≤ r := by omega
 have hks := hinv.2.2
 rw [List.take_of_length_le hge] at hks
 have hro : room s.Cells a = decide (ks.length ≤ 24) := by (unfold room roomKs; rw [← hp, hinv.2.1, List.drop_eq_nil_of_le hge, BB3, ← hks]; rfl)
 refine G0 ?_
 refine A3 (A2 ?_)
 refine A5 rfl ?_
 refine A1 rfl (e9 0 rfl E5 (A0 rfl) rfl) ?_
 refine A1 rfl (S1 rfl (A0 rfl) B5) ?_
 refine B4 rfl ?_
 refine A4 ?_
 refine C2 ?_
 exact G1 rfl (B8 rfl (by first | exact congrArg AV.bool hro.symm | exact congrArg AV.bool (by rw [hro]; simp only [A9]; rw [decide_eq_decide]; omega)))
theorem Az0 (s : TState) (ws : List TWrite) (hs : s.size ≤ 400000) (hw : sizeL TWrite.size ws ≤ 400000) : FSpec Tryz.prog 179 [AV.agg s.cs, AV.list 3 (ws.map TWrite.cs)] (AV.bool (room s.Cells (ws ++ hWs s.Held))) := by
  have hsum : sizeL TCell.size s.Cells + sizeL THeld.size s.Held ≤ 400000 := by have h9 : s.size = sizeL TCell.size s.Cells + sizeL THeld.size s.Held + s.Told.length := rfl; omega
  have hcl := M9 (f := TCell.size) (l := s.Cells)
  have hwl := M9 (f := TWrite.size) (l := ws)
  have hhl := Aa2 (l := s.Held)
  exact AW8 s ws (by omega) (by omega)
theorem Ae6 : ∀ {l : List THeld}, (∀ h ∈ l, goodRec (hRec h) = true) → (hWs l).length ≤ 400 * l.length
  | [], _ => Nat.le_refl _
  | h :: l, hg => by
    have ih := Ae6 fun k hk => hg k (List.mem_cons_of_mem h hk)
    have h1 := Ah3 (hg h List.mem_cons_self)
    have h4 := M9 (f := TWrite.size) (l := h.Writes)
    have h2 : (hRec h).size = sizeL (fun x => x.length) h.Reads + sizeL TWrite.size h.Writes := rfl
    rw [y7, J4, J7]; omega
theorem Az1 {s : TState} (h : allB s.Held.length (heldAt s) = true) : ∀ k ∈ s.Held, goodRec (hRec k) = true := fun k hk => by
  obtain ⟨i, hi⟩ := List.getElem?_of_mem hk
  have h9 := c9.1 h i (List.getElem?_eq_some_iff.1 hi).1
  unfold heldAt at h9
  rw [hi] at h9
  simp only [Bool.and_eq_true] at h9
  exact h9.1.1.1.1
theorem AM3 (s : TState) (n : Int) (hlen : s.Held.length ≤ 1048576) : FSpec Tryz.prog 128 [AV.agg s.cs, AV.int n] (AV.tup [AV.agg (heldFO s.Held n).1.cs, AV.bool (heldFO s.Held n).2]) := by
 obtain ⟨l, hl⟩ : ∃ l, s.Held = l := ⟨_, rfl⟩
 have hcs : s.cs = [AV.int s.Floor, AV.list 2 (s.Cells.map TCell.cs), AV.list 5 (l.map THeld.cs), AV.list 3 (s.Told.map TTold.cs)] := by rw [← hl]; rfl
 rw [hl] at hlen
 rw [hl, hcs]
 refine D8 Tryz.func128 rfl Tryz.ntmps128 rfl ?_
 refine A3 (A2 ?_)
 refine L6 rfl rfl rfl rfl (A0 rfl) ?_
 intro b2
 refine H3 rfl rfl rfl rfl Tryz.zeroValue141 rfl ?_
 intro b4
 refine A1 rfl (B3 rfl F0) ?_
 refine A4 (A3 (A3 (A2 ?_)))
 refine A1 rfl (B2 2 rfl D2 rfl I6 (A0 rfl) rfl) ?_
 refine A1 rfl (B0 1 rfl (A0 rfl) rfl L8 rfl) ?_
 refine A1 rfl (G5 rfl E4 (A0 rfl)) ?_
 refine A1 rfl (B7 rfl B5) ?_
 refine A4 (D0 ?_)
 refine H4 [(1, _), (4, _), (9, _), (10, _)] _ (fun (i : Nat) => i ≤ l.length ∧ ∀ j y, j < i → l[j]? = some y → (y.Txn == n) = false) (fun (i : Nat) => []) (fun (i : Nat) => [(11, AV.int i)]) (fun (i : Nat) => l.length - i) (0) ?_ (H8 ⟨rfl, rfl, rfl, rfl, rfl, trivial⟩) ?_
 ·exact ⟨Nat.zero_le _, fun j y hj => by omega⟩
 intro i hinv
 refine A3 (A2 ?_)
 refine A1 rfl (I4 rfl (A0 rfl) (A0 rfl)) ?_
 refine A4 (A3 ?_)
 refine C3 (A0 rfl) ?_ ?_
 ·intro h12
  have k12 := of_decide_eq_true h12; try simp only [A9] at k12
  have hlt : i < l.length := by omega
  obtain ⟨x, hx⟩ := get_some hlt
  refine C8 (A3 (D0 (A3 (A2 ?_))))
  refine A1 rfl (H5 rfl E4 D9 (A0 rfl) (A0 rfl) hx (by first | omega | (simp only [D1, A7, szR] at *; omega))) ?_
  refine A1 rfl (J0 rfl (A0 rfl) J9 D9) ?_
  refine H3 rfl rfl rfl rfl Tryz.zeroValue141 rfl ?_
  intro b7
  refine E9 0 rfl rfl rfl (A0 rfl) (A0 rfl) (F9 _) rfl D9 rfl ?_
  refine A4 (A3 (A2 ?_))
  refine A1 rfl (B2 0 rfl E8 rfl B9 (A0 rfl) rfl) ?_
  refine A1 rfl (B0 0 rfl (A0 rfl) rfl C1 rfl) ?_
  refine A5 rfl ?_
  refine A1 rfl (R6 rfl (A0 rfl) (A0 rfl)) ?_
  refine A4 ?_
  refine C3 (A0 rfl) ?_ ?_
  ·intro h18
   have k18 := S3 h18; try simp only [A9] at k18
   have he : heldFO l n = (x, true) := by (unfold heldFO findH; rw [AH6 hx h18 hinv.2])
   rw [he]
   refine A3 (A2 ?_)
   refine A1 rfl (I5 0 rfl (A0 rfl) rfl J9 D9 rfl) ?_
   refine E9 1 rfl rfl rfl (A0 rfl) (A0 rfl) (F9 _) rfl D9 rfl ?_
   refine A1 rfl (B3 rfl F0) ?_
   refine A4 ?_
   refine C2 ?_
   exact T7 rfl (by decide) (F2 (Q2 (ys := _) 1 rfl rfl J9 D9 rfl) (F2 (B8 rfl (by rfl)) L5))
  intro h18
  have k18 := S2 h18; try simp only [A9] at k18
  refine C8 (A2 ?_)
  refine A1 rfl (F6 rfl (A0 rfl) B5 (by first | omega | (simp only [D1, A7, szR] at *; omega))) ?_
  refine A5 rfl ?_
  refine A4 ?_
  refine J3 i (i + 1) ?_ ?_ (S0 1 ⟨rfl, rfl, rfl, rfl, rfl, trivial⟩)
  ·exact ⟨by omega, fun j y hj hy => if hji : j < i then hinv.2 j y hji hy else (by have e : j = i := (by omega); subst e; rw [hx] at hy; injection hy with hy; subst hy; exact h18)⟩
  omega
 intro h12
 have k12 := of_decide_eq_false h12; try simp only [A9] at k12
 have hge : l.length ≤ i := by omega
 have he : heldFO l n = (zHeld, false) := by (unfold heldFO findH; rw [An1 fun j y hy => hinv.2 j y (Nat.lt_of_lt_of_le (List.getElem?_eq_some_iff.1 hy).1 hge) hy])
 rw [he]
 refine G0 ?_
 refine A3 (A2 ?_)
 refine A1 rfl (O6 (places := #[(0, 1), (1, 1), (2, 1), (3, 1), (4, 1)]) rfl E8 Tryz.zeroValue141 (fun w => by kernel_rfl) rfl J5 rfl) ?_
 refine E9 0 rfl rfl rfl (A0 rfl) (A0 rfl) (F9 _) rfl D9 rfl ?_
 refine A1 rfl (B3 rfl F0) ?_
 refine A4 ?_
 refine C2 ?_
 refine AR0 0 3 1 rfl rfl ?_
 refine AR0 0 4 3 rfl rfl ?_
 exact T7 rfl (by decide) (F2 (Q2 (ys := _) 0 rfl rfl J9 D9 rfl) (F2 (B8 rfl (by rfl)) L5))
theorem An2 (s : TState) (n : Int) (hlen : s.Told.length ≤ 1048576) : FSpec Tryz.prog 200 [AV.agg s.cs, AV.int n] (AV.tup [AV.agg (toldFO s.Told n).1.cs, AV.bool (toldFO s.Told n).2]) := by
 obtain ⟨l, hl⟩ : ∃ l, s.Told = l := ⟨_, rfl⟩
 have hcs : s.cs = [AV.int s.Floor, AV.list 2 (s.Cells.map TCell.cs), AV.list 5 (s.Held.map THeld.cs), AV.list 3 (l.map TTold.cs)] := by rw [← hl]; rfl
 rw [hl] at hlen
 rw [hl, hcs]
 refine D8 Tryz.func200 rfl Tryz.ntmps200 rfl ?_
 refine A3 (A2 ?_)
 refine L6 rfl rfl rfl rfl (A0 rfl) ?_
 intro b2
 refine H3 rfl rfl rfl rfl Tryz.zeroValue144 rfl ?_
 intro b4
 refine A1 rfl (B3 rfl F0) ?_
 refine A4 (A3 (A3 (A2 ?_)))
 refine A1 rfl (B2 3 rfl D2 rfl Q8 (A0 rfl) rfl) ?_
 refine A1 rfl (B0 1 rfl (A0 rfl) rfl T6 rfl) ?_
 refine A1 rfl (G5 rfl J1 (A0 rfl)) ?_
 refine A1 rfl (B7 rfl B5) ?_
 refine A4 (D0 ?_)
 refine H4 [(1, _), (4, _), (9, _), (10, _)] _ (fun (i : Nat) => i ≤ l.length ∧ ∀ j y, j < i → l[j]? = some y → (y.Txn == n) = false) (fun (i : Nat) => []) (fun (i : Nat) => [(11, AV.int i)]) (fun (i : Nat) => l.length - i) (0) ?_ (H8 ⟨rfl, rfl, rfl, rfl, rfl, trivial⟩) ?_
 ·exact ⟨Nat.zero_le _, fun j y hj => by omega⟩
 intro i hinv
 refine A3 (A2 ?_)
 refine A1 rfl (I4 rfl (A0 rfl) (A0 rfl)) ?_
 refine A4 (A3 ?_)
 refine C3 (A0 rfl) ?_ ?_
 ·intro h12
  have k12 := of_decide_eq_true h12; try simp only [A9] at k12
  have hlt : i < l.length := by omega
  obtain ⟨x, hx⟩ := get_some hlt
  refine C8 (A3 (D0 (A3 (A2 ?_))))
  refine A1 rfl (H5 rfl J1 K6 (A0 rfl) (A0 rfl) hx (by first | omega | (simp only [D1, A7, szR] at *; omega))) ?_
  refine A1 rfl (J0 rfl (A0 rfl) W8 K6) ?_
  refine H3 rfl rfl rfl rfl Tryz.zeroValue144 rfl ?_
  intro b7
  refine E9 0 rfl rfl rfl (A0 rfl) (A0 rfl) (F9 _) rfl K6 rfl ?_
  refine A4 (A3 (A2 ?_))
  refine A1 rfl (B2 0 rfl K0 rfl B9 (A0 rfl) rfl) ?_
  refine A1 rfl (B0 0 rfl (A0 rfl) rfl C1 rfl) ?_
  refine A5 rfl ?_
  refine A1 rfl (R6 rfl (A0 rfl) (A0 rfl)) ?_
  refine A4 ?_
  refine C3 (A0 rfl) ?_ ?_
  ·intro h18
   have k18 := S3 h18; try simp only [A9] at k18
   have he : toldFO l n = (x, true) := by (unfold toldFO findT; rw [AH6 hx h18 hinv.2])
   rw [he]
   refine A3 (A2 ?_)
   refine A1 rfl (I5 0 rfl (A0 rfl) rfl W8 K6 rfl) ?_
   refine E9 1 rfl rfl rfl (A0 rfl) (A0 rfl) (F9 _) rfl K6 rfl ?_
   refine A1 rfl (B3 rfl F0) ?_
   refine A4 ?_
   refine C2 ?_
   exact T7 rfl (by decide) (F2 (Q2 (ys := _) 1 rfl rfl W8 K6 rfl) (F2 (B8 rfl (by rfl)) L5))
  intro h18
  have k18 := S2 h18; try simp only [A9] at k18
  refine C8 (A2 ?_)
  refine A1 rfl (F6 rfl (A0 rfl) B5 (by first | omega | (simp only [D1, A7, szR] at *; omega))) ?_
  refine A5 rfl ?_
  refine A4 ?_
  refine J3 i (i + 1) ?_ ?_ (S0 1 ⟨rfl, rfl, rfl, rfl, rfl, trivial⟩)
  ·exact ⟨by omega, fun j y hj hy => if hji : j < i then hinv.2 j y hji hy else (by have e : j = i := (by omega); subst e; rw [hx] at hy; injection hy with hy; subst hy; exact h18)⟩
  omega
 intro h12
 have k12 := of_decide_eq_false h12; try simp only [A9] at k12
 have hge : l.length ≤ i := by omega
 have he : toldFO l n = (zTold, false) := by (unfold toldFO findT; rw [An1 fun j y hy => hinv.2 j y (Nat.lt_of_lt_of_le (List.getElem?_eq_some_iff.1 hy).1 hge) hy])
 rw [he]
 refine G0 ?_
 refine A3 (A2 ?_)
 refine A1 rfl (O6 (places := #[(0, 1), (1, 1), (2, 1)]) rfl K0 Tryz.zeroValue144 (fun w => by kernel_rfl) rfl J5 rfl) ?_
 refine E9 0 rfl rfl rfl (A0 rfl) (A0 rfl) (F9 _) rfl K6 rfl ?_
 refine A1 rfl (B3 rfl F0) ?_
 refine A4 ?_
 refine C2 ?_
 exact T7 rfl (by decide) (F2 (Q2 (ys := _) 0 rfl rfl W8 K6 rfl) (F2 (B8 rfl (by rfl)) L5))
theorem Ah5 (s : TState) (ho : CellsOk s.Cells) (hcl : s.Cells.length ≤ 400000) (hs : s.size ≤ 1048576) : FSpec Tryz.prog 126 [AV.agg s.cs] (AV.bool (areHeld s)) := by
 obtain ⟨hs1, hs2, hs3, hs4, hs5⟩ := U9 hs
 refine D8 Tryz.func126 rfl Tryz.ntmps126 rfl ?_
 refine A3 (A2 ?_)
 refine L6 rfl rfl rfl rfl (A0 rfl) ?_
 intro b1
 refine A1 rfl (B3 rfl F0) ?_
 refine A4 (A3 (A3 (A2 ?_)))
 refine A1 rfl (B2 2 rfl D2 rfl I6 (A0 rfl) rfl) ?_
 refine A1 rfl (B0 0 rfl (A0 rfl) rfl L8 rfl) ?_
 refine A1 rfl (G5 rfl E4 (A0 rfl)) ?_
 refine A1 rfl (B7 rfl B5) ?_
 refine A4 (D0 ?_)
 refine H4 [(1, _), (10, _), (11, _)] _ (fun (i : Nat) => i ≤ s.Held.length ∧ ∀ j, j < i → heldAt s j = true) (fun (i : Nat) => []) (fun (i : Nat) => [(12, AV.int i)]) (fun (i : Nat) => s.Held.length - i) (0) ?_ (H8 ⟨rfl, rfl, rfl, rfl, trivial⟩) ?_
 ·exact ⟨Nat.zero_le _, fun j hj => by omega⟩
 intro i hinv
 refine A3 (A2 ?_)
 refine A1 rfl (I4 rfl (A0 rfl) (A0 rfl)) ?_
 refine A4 (A3 ?_)
 refine C3 (A0 rfl) ?_ ?_
 ·intro h13
  have k13 := of_decide_eq_true h13; try simp only [A9] at k13
  have hlt : i < s.Held.length := by omega
  obtain ⟨h, hx⟩ := get_some hlt
  obtain ⟨y, hy⟩ := get_some (show i - 1 < s.Held.length by omega)
  obtain ⟨g1, g2, g3, g4, g5⟩ := X4 hs2 hx
  have hinv0 := hinv
  refine C8 (A3 (D0 (A3 (A2 ?_))))
  refine A5 rfl ?_
  refine A1 rfl (H5 rfl E4 D9 (A0 rfl) (A0 rfl) hx (by first | omega | (simp only [D1, A7, szR] at *; omega))) ?_
  refine A1 rfl (J0 rfl (A0 rfl) J9 D9) ?_
  refine H3 rfl rfl rfl rfl Tryz.zeroValue141 rfl ?_
  intro b4
  refine B4 rfl ?_
  refine E9 0 rfl rfl rfl (A0 rfl) (A0 rfl) (F9 _) rfl D9 rfl ?_
  refine A4 (A3 (A3 ?_))
  refine I3 (by kernel_rfl) (by kernel_rfl) rfl ?_
  refine B1 rfl rfl (I5 0 rfl (A0 rfl) rfl J9 D9 rfl) ?_
  refine B1 rfl rfl (D7 rfl Tryz.call177 rfl (Ah4 _) (A8 (A0 rfl) C6)) ?_
  refine B1 rfl rfl (D7 rfl Tryz.call106 rfl (AQ5 _ (by first | assumption | omega)) (A8 (A0 rfl) C6)) ?_
  refine B1 rfl rfl (K3 rfl (A0 rfl)) ?_
  refine B1 rfl rfl (B7 rfl (A0 rfl)) ?_
  refine C5 rfl (G2 rfl rfl rfl) (fun hc => B2 1 rfl E8 rfl B9 (A0 rfl) rfl) ?_
  refine C5 rfl (G2 rfl rfl rfl) (fun hc => B0 0 rfl (A6 rfl hc) rfl C1 rfl) ?_
  refine C5 rfl (G2 rfl rfl rfl) (fun hc => B2 0 rfl D2 rfl B9 (A0 rfl) rfl) ?_
  refine C5 rfl (G2 rfl rfl rfl) (fun hc => B0 1 rfl (A6 rfl hc) rfl C1 rfl) ?_
  refine C5 rfl (G2 rfl rfl rfl) (fun hc => N6 rfl (A6 rfl hc) (A6 rfl hc)) ?_
  refine B1 rfl rfl (P9 rfl (A0 rfl) (F1 rfl)) ?_
  refine B1 rfl rfl (B7 rfl (A0 rfl)) ?_
  refine C5 rfl (G2 rfl rfl rfl) (fun hc => B7 rfl (A0 rfl)) ?_
  refine C5 rfl (G2 rfl rfl rfl) (fun hc => N6 rfl (A6 rfl hc) B5) ?_
  refine C5 rfl (G2 rfl rfl rfl) (fun hc => B7 rfl (A6 rfl hc)) ?_
  refine C5 rfl (D6 rfl rfl rfl) (fun hc => B2 2 rfl D2 rfl I6 (A0 rfl) rfl) ?_
  refine C5 rfl (D6 rfl rfl rfl) (fun hc => B0 1 rfl (A6 rfl hc) rfl L8 rfl) ?_
  refine C5 rfl (D6 rfl rfl rfl) (fun hc => B7 rfl (A0 rfl)) ?_
  refine C5 rfl (D6 rfl rfl rfl) (fun hc => Q5 rfl (A6 rfl hc) B5 (by first | omega | ((try simp only [D1, A7, szR] at *); omega) | (have hc2 := hc; simp only [M7, beq_iff_eq, bne_iff_ne, A9, E6] at hc2; omega))) ?_
  refine C5 rfl (D6 rfl rfl rfl) (fun hc => H5 rfl E4 D9 (A6 rfl hc) (A6 rfl hc) hy (by first | omega | ((try simp only [D1, A7, szR] at *); omega) | (have hc2 := hc; simp only [M7, beq_iff_eq, bne_iff_ne, A9, E6] at hc2; omega))) ?_
  refine C5 rfl (D6 rfl rfl rfl) (fun hc => R7 rfl E8 rfl B9 (A6 rfl hc) rfl) ?_
  refine C5 rfl (D6 rfl rfl rfl) (fun hc => L3 rfl (A6 rfl hc) C1 rfl) ?_
  refine C5 rfl (D6 rfl rfl rfl) (fun hc => B2 0 rfl E8 rfl B9 (A0 rfl) rfl) ?_
  refine C5 rfl (D6 rfl rfl rfl) (fun hc => B0 0 rfl (A6 rfl hc) rfl C1 rfl) ?_
  refine C5 rfl (D6 rfl rfl rfl) (fun hc => V3 rfl (A6 rfl hc) (A6 rfl hc)) ?_
  refine C5 rfl (G2 rfl rfl rfl) (fun hc => G8 rfl (A6 rfl hc) (O5 rfl hc)) ?_
  refine B1 rfl rfl (P9 rfl (A0 rfl) (F1 rfl)) ?_
  refine P0 ?_
  refine C3 (A0 rfl) ?_ ?_
  ·intro h43
   have hfin : areHeld s = false := by (unfold areHeld; rw [U7 hlt (by rw [u7 hx hy, h43]; rfl)]; rfl)
   refine A3 (A2 ?_)
   refine A1 rfl (B3 rfl F0) ?_
   refine A4 ?_
   refine C2 ?_
   exact G1 rfl (B8 rfl (by first | exact congrArg AV.bool hfin.symm | exact congrArg AV.bool (by unfold areHeld; rw [hall, Bool.true_and, List.nil_append, A9]; congr 1; rw [decide_eq_decide]; omega)))
  intro h43
  refine C8 (A3 (A3 (A2 ?_)))
  refine A1 rfl (B2 2 rfl D2 rfl I6 (A0 rfl) rfl) ?_
  refine A1 rfl (B0 1 rfl (A0 rfl) rfl L8 rfl) ?_
  refine A5 rfl ?_
  refine A1 rfl (AA5 rfl E4 D9 (A0 rfl) (A0 rfl) (by first | omega | (simp only [D1, A7, szR] at *; omega)) (by first | omega | (simp only [D1, A7, szR] at *; omega))) ?_
  refine A1 rfl (G5 rfl E4 (A0 rfl)) ?_
  refine A1 rfl (B7 rfl B5) ?_
  refine A4 (D0 ?_)
  refine H4 [(1, _), (3, _), (4, _), (10, _), (11, _), (12, _), (13, _), (14, _), (15, _), (16, _), (17, _), (18, _), (19, _), (20, _), (21, _), (27, _), (28, _), (43, _), (44, _), (45, _), (46, _), (47, _), (48, _)] _ (fun (q : Nat) => q ≤ (s.Held.take i).length ∧ ((s.Held.take i).all fun g => apart g h.Reads h.Writes) = (((s.Held.take i).drop q).all fun g => apart g h.Reads h.Writes)) (fun (q : Nat) => []) (fun (q : Nat) => [(49, AV.int q)]) (fun (q : Nat) => (s.Held.take i).length - q) (0) ?_ (H8 ⟨rfl, rfl, rfl, rfl, rfl, rfl, rfl, rfl, rfl, rfl, rfl, rfl, rfl, rfl, rfl, rfl, rfl, rfl, rfl, rfl, rfl, rfl, rfl, rfl, trivial⟩) ?_
  ·exact ⟨Nat.zero_le _, rfl⟩
  intro q hinv
  refine A3 (A2 ?_)
  refine A1 rfl (I4 rfl (A0 rfl) (A0 rfl)) ?_
  refine A4 (A3 ?_)
  refine C3 (A0 rfl) ?_ ?_
  ·intro h50
   have k50 := of_decide_eq_true h50; try simp only [A9] at k50
   have hlt2 : q < (s.Held.take i).length := by (simp only [E6, A9, Int.toNat_natCast] at k50 ⊢; omega)
   obtain ⟨k, hx2⟩ := get_some hlt2
   refine C8 (A3 (D0 (A3 (A2 ?_))))
   refine A1 rfl (H5 rfl E4 D9 (A0 rfl) (A0 rfl) hx2 (by first | omega | (simp only [D1, A7, szR] at *; omega))) ?_
   refine A1 rfl (J0 rfl (A0 rfl) J9 D9) ?_
   refine H3 rfl rfl rfl rfl Tryz.zeroValue141 rfl ?_
   intro b6
   refine E9 0 rfl rfl rfl (A0 rfl) (A0 rfl) (F9 _) rfl D9 rfl ?_
   refine A4 (A3 (A2 ?_))
   refine A1 rfl (I5 0 rfl (A0 rfl) rfl J9 D9 rfl) ?_
   refine A1 rfl (B2 3 rfl E8 rfl N3 (A0 rfl) rfl) ?_
   refine A1 rfl (B0 1 rfl (A0 rfl) rfl P7 rfl) ?_
   refine A1 rfl (B2 4 rfl E8 rfl K4 (A0 rfl) rfl) ?_
   refine A1 rfl (B0 1 rfl (A0 rfl) rfl L2 rfl) ?_
   refine A1 rfl (D7 rfl Tryz.call178 rfl (apart_spec _ _ _) (A8 (A0 rfl) (A8 (A0 rfl) (A8 (A0 rfl) C6)))) ?_
   refine A1 rfl (K3 rfl (A0 rfl)) ?_
   refine A4 ?_
   refine C3 (A0 rfl) ?_ ?_
   ·intro h59
    have hfin : areHeld s = false := by (unfold areHeld; rw [U7 hlt (by rw [u7 hx hy, hinv.2, drop_some hx2, List.all_cons, show apart k h.Reads h.Writes = false by simpa using h59]; simp)]; rfl)
    refine A3 (A2 ?_)
    refine A1 rfl (B3 rfl F0) ?_
    refine A4 ?_
    refine C2 ?_
    exact G1 rfl (B8 rfl (by first | exact congrArg AV.bool hfin.symm | exact congrArg AV.bool (by unfold areHeld; rw [hall, Bool.true_and, List.nil_append, A9]; congr 1; rw [decide_eq_decide]; omega)))
   intro h59
   refine C8 (A2 ?_)
   refine A1 rfl (F6 rfl (A0 rfl) B5 (by first | omega | (simp only [D1, A7, szR] at *; omega))) ?_
   refine A5 rfl ?_
   refine A4 ?_
   refine J3 q (q + 1) ?_ ?_ (S0 1 ⟨rfl, rfl, rfl, rfl, rfl, rfl, rfl, rfl, rfl, rfl, rfl, rfl, rfl, rfl, rfl, rfl, rfl, rfl, rfl, rfl, rfl, rfl, rfl, rfl, trivial⟩)
   ·exact ⟨by omega, by rw [hinv.2, drop_some hx2, List.all_cons, show apart k h.Reads h.Writes = true by simpa using h59]; rfl⟩
   omega
  intro h50
  have k50 := of_decide_eq_false h50; try simp only [A9] at k50
  have hge2 : (s.Held.take i).length ≤ q := by (simp only [E6, A9, Int.toNat_natCast] at k50 ⊢; omega)
  have hap : ((s.Held.take i).all fun g => apart g h.Reads h.Writes) = true := by (rw [hinv.2, List.drop_eq_nil_of_le hge2]; rfl)
  refine G0 ?_
  refine A3 (A2 ?_)
  refine A1 rfl (B2 4 rfl E8 rfl K4 (A0 rfl) rfl) ?_
  refine A1 rfl (B0 0 rfl (A0 rfl) rfl L2 rfl) ?_
  refine A1 rfl (G5 rfl F7 (A0 rfl)) ?_
  refine A1 rfl (B7 rfl B5) ?_
  refine A4 (D0 ?_)
  refine H4 [(1, _), (3, _), (4, _), (10, _), (11, _), (12, _), (13, _), (14, _), (15, _), (16, _), (17, _), (18, _), (19, _), (20, _), (21, _), (27, _), (28, _), (43, _), (44, _), (45, _), (46, _), (47, _), (48, _), (49, _), (50, _), (61, _), (62, _), (63, _)] _ (fun (r : Nat) => r ≤ h.Writes.length ∧ (h.Writes.all fun w => decide (lastTime s.Cells w.Key < h.Time)) = ((h.Writes.drop r).all fun w => decide (lastTime s.Cells w.Key < h.Time))) (fun (r : Nat) => []) (fun (r : Nat) => [(64, AV.int r)]) (fun (r : Nat) => h.Writes.length - r) (0) ?_ (H8 ⟨rfl, rfl, rfl, rfl, rfl, rfl, rfl, rfl, rfl, rfl, rfl, rfl, rfl, rfl, rfl, rfl, rfl, rfl, rfl, rfl, rfl, rfl, rfl, rfl, rfl, rfl, rfl, rfl, rfl, trivial⟩) ?_
  ·exact ⟨Nat.zero_le _, rfl⟩
  intro r hinv
  refine A3 (A2 ?_)
  refine A1 rfl (I4 rfl (A0 rfl) (A0 rfl)) ?_
  refine A4 (A3 ?_)
  refine C3 (A0 rfl) ?_ ?_
  ·intro h65
   have k65 := of_decide_eq_true h65; try simp only [A9] at k65
   have hlt3 : r < h.Writes.length := by omega
   obtain ⟨w, hw⟩ := get_some hlt3
   refine C8 (A3 (D0 (A3 (A2 ?_))))
   refine A1 rfl (H5 rfl F7 I2 (A0 rfl) (A0 rfl) hw (by first | omega | (simp only [D1, A7, szR] at *; omega))) ?_
   refine A1 rfl (J0 rfl (A0 rfl) S7 I2) ?_
   refine H3 rfl rfl rfl rfl Tryz.zeroValue101 rfl ?_
   intro b8
   refine E9 0 rfl rfl rfl (A0 rfl) (A0 rfl) (F9 _) rfl I2 rfl ?_
   refine A4 (A3 ?_)
   refine I3 (by kernel_rfl) (by kernel_rfl) rfl ?_
   refine B1 rfl rfl (B2 1 rfl D2 rfl M4 (A0 rfl) rfl) ?_
   refine B1 rfl rfl (B0 2 rfl (A0 rfl) rfl O9 rfl) ?_
   refine B1 rfl rfl (B2 0 rfl I0 rfl E3 (A0 rfl) rfl) ?_
   refine B1 rfl rfl (B0 0 rfl (A0 rfl) rfl F5 rfl) ?_
   refine B1 rfl rfl (D7 rfl Tryz.call127 rfl (AC8 _ _ (by first | assumption | exact T9 (by rw [T8]; assumption)) (by first | assumption | omega)) (A8 (A0 rfl) (A8 (A0 rfl) C6))) ?_
   refine B1 rfl rfl (B2 1 rfl E8 rfl B9 (A0 rfl) rfl) ?_
   refine B1 rfl rfl (B0 1 rfl (A0 rfl) rfl C1 rfl) ?_
   refine B1 rfl rfl (V3 rfl (A0 rfl) (A0 rfl)) ?_
   refine P0 ?_
   refine C3 (A0 rfl) ?_ ?_
   ·intro h75
    have k75 := of_decide_eq_true h75; try simp only [A9] at k75
    have hfin : areHeld s = false := by (unfold areHeld; rw [U7 hlt (by rw [u7 hx hy, hinv.2, drop_some hw, List.all_cons, decide_eq_false (show ¬ lastTime s.Cells w.Key < h.Time by omega)]; simp)]; rfl)
    refine A3 (A2 ?_)
    refine A1 rfl (B3 rfl F0) ?_
    refine A4 ?_
    refine C2 ?_
    exact G1 rfl (B8 rfl (by first | exact congrArg AV.bool hfin.symm | exact congrArg AV.bool (by unfold areHeld; rw [hall, Bool.true_and, List.nil_append, A9]; congr 1; rw [decide_eq_decide]; omega)))
   intro h75
   have k75 := of_decide_eq_false h75; try simp only [A9] at k75
   refine C8 (A2 ?_)
   refine A1 rfl (F6 rfl (A0 rfl) B5 (by first | omega | (simp only [D1, A7, szR] at *; omega))) ?_
   refine A5 rfl ?_
   refine A4 ?_
   refine J3 r (r + 1) ?_ ?_ (S0 1 ⟨rfl, rfl, rfl, rfl, rfl, rfl, rfl, rfl, rfl, rfl, rfl, rfl, rfl, rfl, rfl, rfl, rfl, rfl, rfl, rfl, rfl, rfl, rfl, rfl, rfl, rfl, rfl, rfl, rfl, trivial⟩)
   ·exact ⟨by omega, by rw [hinv.2, drop_some hw, List.all_cons, decide_eq_true (show lastTime s.Cells w.Key < h.Time by omega)]; rfl⟩
   omega
  intro h65
  have k65 := of_decide_eq_false h65; try simp only [A9] at k65
  have hge3 : h.Writes.length ≤ r := by omega
  have hlw : (h.Writes.all fun w => decide (lastTime s.Cells w.Key < h.Time)) = true := by (rw [hinv.2, List.drop_eq_nil_of_le hge3]; rfl)
  refine G0 ?_
  refine A2 ?_
  refine A1 rfl (F6 rfl (A0 rfl) B5 (by first | omega | (simp only [D1, A7, szR] at *; omega))) ?_
  refine A5 rfl ?_
  refine A4 ?_
  refine J3 i (i + 1) ?_ ?_ (S0 1 ⟨rfl, rfl, rfl, rfl, trivial⟩)
  ·exact ⟨by omega, fun j hj => if hji : j < i then hinv0.2 j hji else (by have e : j = i := (by omega); subst e; rw [u7 hx hy, h43, hap, hlw]; rfl)⟩
  omega
 intro h13
 have k13 := of_decide_eq_false h13; try simp only [A9] at k13
 have hge : s.Held.length ≤ i := by omega
 have hall : allB s.Held.length (heldAt s) = true := c9.2 fun j hj => hinv.2 j (by omega)
 refine G0 ?_
 refine A3 (A2 ?_)
 refine A1 rfl (B2 2 rfl D2 rfl I6 (A0 rfl) rfl) ?_
 refine A1 rfl (B0 0 rfl (A0 rfl) rfl L8 rfl) ?_
 refine A1 rfl (G5 rfl E4 (A0 rfl)) ?_
 refine A1 rfl (S1 rfl (A0 rfl) B5) ?_
 refine A5 rfl ?_
 refine C4 rfl (fun hc => I5 0 rfl (A0 rfl) rfl G7 E1 rfl) ?_
 refine C4 rfl (fun hc => D7 rfl Tryz.call179 rfl (AW8 s [] hs (by (have h9 := Ae6 (Az1 hall); have h8 := of_decide_eq_true hc; simp only [A9] at h8; simp only [L9]; omega))) (A8 (A6 rfl hc) (A8 AN7 C6))) ?_
 refine A1 rfl (G8 rfl (A0 rfl) (F1 rfl)) ?_
 refine B4 rfl ?_
 refine A4 ?_
 refine C2 ?_
 exact G1 rfl (B8 rfl (by first | exact congrArg AV.bool hfin.symm | exact congrArg AV.bool (by unfold areHeld; rw [hall, Bool.true_and, List.nil_append, A9]; congr 1; rw [decide_eq_decide]; omega)))
theorem AB3 (s : TState) (hs : s.size ≤ 1048576) : FSpec Tryz.prog 80 [AV.agg s.cs] (AV.bool (goodState s)) := by
 obtain ⟨hs1, hs2, hs3, hs4, hs5⟩ := U9 hs
 refine D8 Tryz.func80 rfl Tryz.ntmps80 rfl ?_
 refine A3 (A2 ?_)
 refine L6 rfl rfl rfl rfl (A0 rfl) ?_
 intro b1
 refine A1 rfl (B3 rfl F0) ?_
 refine A4 (A3 (A3 (A2 ?_)))
 refine A1 rfl (B2 0 rfl D2 rfl B9 (A0 rfl) rfl) ?_
 refine A1 rfl (B0 0 rfl (A0 rfl) rfl C1 rfl) ?_
 refine A1 rfl (D7 rfl Tryz.call124 rfl (Ar2 _) (A8 (A0 rfl) C6)) ?_
 refine A1 rfl (K3 rfl (A0 rfl)) ?_
 refine A5 rfl ?_
 refine H2 rfl (fun hc => B2 1 rfl D2 rfl M4 (A0 rfl) rfl) ?_
 refine H2 rfl (fun hc => B0 0 rfl (A6 rfl hc) rfl O9 rfl) ?_
 refine H2 rfl (fun hc => D7 rfl Tryz.call125 rfl (AQ4 _ (by first | assumption | omega)) (A8 (A6 rfl hc) C6)) ?_
 refine H2 rfl (fun hc => K3 rfl (A6 rfl hc)) ?_
 refine A1 rfl (P9 rfl (A0 rfl) (F1 rfl)) ?_
 refine A5 rfl ?_
 refine H2 rfl (fun hc => I5 0 rfl (A0 rfl) rfl G7 E1 rfl) ?_
 refine H2 rfl (fun hc => D7 rfl Tryz.call126 rfl (Ah5 s (T9 (by have h9 := hc; simp at h9; rw [T8]; exact h9.2)) (by have h9 := hc; simp at h9; have h8 := (P4 (by rw [T8]; exact h9.2)).1; omega) hs) (A8 (A6 rfl hc) C6)) ?_
 refine H2 rfl (fun hc => K3 rfl (A6 rfl hc)) ?_
 refine A1 rfl (P9 rfl (A0 rfl) (F1 rfl)) ?_
 refine A5 rfl ?_
 refine H2 rfl (fun hc => B2 3 rfl D2 rfl Q8 (A0 rfl) rfl) ?_
 refine H2 rfl (fun hc => B0 0 rfl (A6 rfl hc) rfl T6 rfl) ?_
 refine H2 rfl (fun hc => G5 rfl J1 (A6 rfl hc)) ?_
 refine H2 rfl (fun hc => N6 rfl (A6 rfl hc) B5) ?_
 refine A1 rfl (P9 rfl (A0 rfl) (F1 rfl)) ?_
 refine A4 ?_
 refine C3 (A0 rfl) ?_ ?_
 ·intro h29
  have hfin : goodState s = false := by (unfold goodState; simp only [Bool.or_eq_true, Bool.not_eq_true', decide_eq_true_eq, A9] at h29; rcases h29 with ((h | h) | h) | h; (rw [h]; rfl); (rw [T8, h]; simp); (rw [h]; simp); (rw [decide_eq_false (show ¬ s.Told.length ≤ 60 by omega)]; simp))
  refine A3 (A2 ?_)
  refine A1 rfl (B3 rfl F0) ?_
  refine A4 ?_
  refine C2 ?_
  exact G1 rfl (B8 rfl (by exact congrArg AV.bool hfin.symm))
 intro h29
 simp only [Bool.or_eq_false_iff, Bool.not_eq_false', decide_eq_false_iff_not, A9] at h29
 obtain ⟨⟨⟨q1, q2⟩, q3⟩, q4⟩ := h29
 have hco := T9 (by rw [T8]; exact q2)
 have hgs : goodState s = ((s.Cells.all fun c => decide (lastTime s.Cells c.Key ≤ s.Floor)) && allB s.Told.length (toldAt s)) := by (unfold goodState; rw [q1, T8, q2, q3, decide_eq_true (show s.Told.length ≤ 60 by omega)]; simp)
 refine C8 (A3 (A3 (A2 ?_)))
 refine A1 rfl (B2 1 rfl D2 rfl M4 (A0 rfl) rfl) ?_
 refine A1 rfl (B0 0 rfl (A0 rfl) rfl O9 rfl) ?_
 refine A1 rfl (G5 rfl E2 (A0 rfl)) ?_
 refine A1 rfl (B7 rfl B5) ?_
 refine A4 (D0 ?_)
 refine H4 [(1, _), (31, _), (32, _)] _ (fun (i : Nat) => i ≤ s.Cells.length ∧ (s.Cells.all fun c => decide (lastTime s.Cells c.Key ≤ s.Floor)) = ((s.Cells.drop i).all fun c => decide (lastTime s.Cells c.Key ≤ s.Floor))) (fun (i : Nat) => []) (fun (i : Nat) => [(33, AV.int i)]) (fun (i : Nat) => s.Cells.length - i) (0) ?_ (H8 ⟨rfl, rfl, rfl, rfl, trivial⟩) ?_
 ·exact ⟨Nat.zero_le _, rfl⟩
 intro i hinv
 refine A3 (A2 ?_)
 refine A1 rfl (I4 rfl (A0 rfl) (A0 rfl)) ?_
 refine A4 (A3 ?_)
 refine C3 (A0 rfl) ?_ ?_
 ·intro h34
  have k34 := of_decide_eq_true h34; try simp only [A9] at k34
  have hlt : i < s.Cells.length := by omega
  obtain ⟨c, hx⟩ := get_some hlt
  refine C8 (A3 (D0 (A3 (A2 ?_))))
  refine A1 rfl (H5 rfl E2 F3 (A0 rfl) (A0 rfl) hx (by first | omega | (simp only [D1, A7, szR] at *; omega))) ?_
  refine A1 rfl (J0 rfl (A0 rfl) R5 F3) ?_
  refine H3 rfl rfl rfl rfl Tryz.zeroValue125 rfl ?_
  intro b4
  refine E9 0 rfl rfl rfl (A0 rfl) (A0 rfl) (F9 _) rfl F3 rfl ?_
  refine A4 (A3 ?_)
  refine I3 (by kernel_rfl) (by kernel_rfl) rfl ?_
  refine B1 rfl rfl (B2 1 rfl D2 rfl M4 (A0 rfl) rfl) ?_
  refine B1 rfl rfl (B0 1 rfl (A0 rfl) rfl O9 rfl) ?_
  refine B1 rfl rfl (B2 0 rfl F8 rfl E3 (A0 rfl) rfl) ?_
  refine B1 rfl rfl (B0 0 rfl (A0 rfl) rfl F5 rfl) ?_
  refine B1 rfl rfl (D7 rfl Tryz.call127 rfl (AC8 _ _ (by first | assumption | exact T9 (by rw [T8]; assumption)) (by first | assumption | omega)) (A8 (A0 rfl) (A8 (A0 rfl) C6))) ?_
  refine B1 rfl rfl (B2 0 rfl D2 rfl B9 (A0 rfl) rfl) ?_
  refine B1 rfl rfl (B0 1 rfl (A0 rfl) rfl C1 rfl) ?_
  refine B1 rfl rfl (N6 rfl (A0 rfl) (A0 rfl)) ?_
  refine P0 ?_
  refine C3 (A0 rfl) ?_ ?_
  ·intro h44
   have k44 := of_decide_eq_true h44; try simp only [A9] at k44
   have hfin : goodState s = false := by (rw [hgs, hinv.2, drop_some hx, List.all_cons, decide_eq_false (show ¬ lastTime s.Cells c.Key ≤ s.Floor by omega)]; rfl)
   refine A3 (A2 ?_)
   refine A1 rfl (B3 rfl F0) ?_
   refine A4 ?_
   refine C2 ?_
   exact G1 rfl (B8 rfl (by exact congrArg AV.bool hfin.symm))
  intro h44
  have k44 := of_decide_eq_false h44; try simp only [A9] at k44
  refine C8 (A2 ?_)
  refine A1 rfl (F6 rfl (A0 rfl) B5 (by first | omega | (simp only [D1, A7, szR] at *; omega))) ?_
  refine A5 rfl ?_
  refine A4 ?_
  refine J3 i (i + 1) ?_ ?_ (S0 1 ⟨rfl, rfl, rfl, rfl, trivial⟩)
  ·exact ⟨by omega, by rw [hinv.2, drop_some hx, List.all_cons, decide_eq_true (show lastTime s.Cells c.Key ≤ s.Floor by omega)]; rfl⟩
  omega
 intro h34
 have k34 := of_decide_eq_false h34; try simp only [A9] at k34
 have hge : s.Cells.length ≤ i := by omega
 have hgs2 : goodState s = allB s.Told.length (toldAt s) := by (rw [hgs, hinv.2, List.drop_eq_nil_of_le hge]; rfl)
 refine G0 ?_
 refine A3 (A3 (A2 ?_))
 refine A1 rfl (B2 3 rfl D2 rfl Q8 (A0 rfl) rfl) ?_
 refine A1 rfl (B0 0 rfl (A0 rfl) rfl T6 rfl) ?_
 refine A1 rfl (G5 rfl J1 (A0 rfl)) ?_
 refine A1 rfl (B7 rfl B5) ?_
 refine A4 (D0 ?_)
 refine H4 [(1, _), (47, _), (48, _)] _ (fun (q : Nat) => q ≤ s.Told.length ∧ ∀ j, j < q → toldAt s j = true) (fun (q : Nat) => []) (fun (q : Nat) => [(49, AV.int q)]) (fun (q : Nat) => s.Told.length - q) (0) ?_ (H8 ⟨rfl, rfl, rfl, rfl, trivial⟩) ?_
 ·exact ⟨Nat.zero_le _, fun j hj => by omega⟩
 intro q hinv
 refine A3 (A2 ?_)
 refine A1 rfl (I4 rfl (A0 rfl) (A0 rfl)) ?_
 refine A4 (A3 ?_)
 refine C3 (A0 rfl) ?_ ?_
 ·intro h50
  have k50 := of_decide_eq_true h50; try simp only [A9] at k50
  have hlt : q < s.Told.length := by omega
  obtain ⟨t, hx⟩ := get_some hlt
  obtain ⟨y, hy⟩ := get_some (show q - 1 < s.Told.length by omega)
  refine C8 (A3 (D0 (A3 (A2 ?_))))
  refine A5 rfl ?_
  refine A1 rfl (H5 rfl J1 K6 (A0 rfl) (A0 rfl) hx (by first | omega | (simp only [D1, A7, szR] at *; omega))) ?_
  refine A1 rfl (J0 rfl (A0 rfl) W8 K6) ?_
  refine H3 rfl rfl rfl rfl Tryz.zeroValue144 rfl ?_
  intro b6
  refine B4 rfl ?_
  refine E9 0 rfl rfl rfl (A0 rfl) (A0 rfl) (F9 _) rfl K6 rfl ?_
  refine A4 (A3 (A3 ?_))
  refine I3 (by kernel_rfl) (by kernel_rfl) rfl ?_
  refine B1 rfl rfl (B2 0 rfl K0 rfl B9 (A0 rfl) rfl) ?_
  refine B1 rfl rfl (B0 0 rfl (A0 rfl) rfl C1 rfl) ?_
  refine B1 rfl rfl (D7 rfl Tryz.call39 rfl (R9 _ _ _) (A8 (A0 rfl) (A8 B5 (A8 B5 C6)))) ?_
  refine B1 rfl rfl (K3 rfl (A0 rfl)) ?_
  refine B1 rfl rfl (B7 rfl (A0 rfl)) ?_
  refine C5 rfl (G2 rfl rfl rfl) (fun hc => B7 rfl (A0 rfl)) ?_
  refine C5 rfl (G2 rfl rfl rfl) (fun hc => N6 rfl (A6 rfl hc) B5) ?_
  refine C5 rfl (G2 rfl rfl rfl) (fun hc => B7 rfl (A6 rfl hc)) ?_
  refine C5 rfl (D6 rfl rfl rfl) (fun hc => B2 3 rfl D2 rfl Q8 (A0 rfl) rfl) ?_
  refine C5 rfl (D6 rfl rfl rfl) (fun hc => B0 1 rfl (A6 rfl hc) rfl T6 rfl) ?_
  refine C5 rfl (D6 rfl rfl rfl) (fun hc => B7 rfl (A0 rfl)) ?_
  refine C5 rfl (D6 rfl rfl rfl) (fun hc => Q5 rfl (A6 rfl hc) B5 (by first | omega | ((try simp only [D1, A7, szR] at *); omega) | (have hc2 := hc; simp only [M7, beq_iff_eq, bne_iff_ne, A9, E6] at hc2; omega))) ?_
  refine C5 rfl (D6 rfl rfl rfl) (fun hc => H5 rfl J1 K6 (A6 rfl hc) (A6 rfl hc) hy (by first | omega | ((try simp only [D1, A7, szR] at *); omega) | (have hc2 := hc; simp only [M7, beq_iff_eq, bne_iff_ne, A9, E6] at hc2; omega))) ?_
  refine C5 rfl (D6 rfl rfl rfl) (fun hc => R7 rfl K0 rfl B9 (A6 rfl hc) rfl) ?_
  refine C5 rfl (D6 rfl rfl rfl) (fun hc => L3 rfl (A6 rfl hc) C1 rfl) ?_
  refine C5 rfl (D6 rfl rfl rfl) (fun hc => B2 0 rfl K0 rfl B9 (A0 rfl) rfl) ?_
  refine C5 rfl (D6 rfl rfl rfl) (fun hc => B0 0 rfl (A6 rfl hc) rfl C1 rfl) ?_
  refine C5 rfl (D6 rfl rfl rfl) (fun hc => V3 rfl (A6 rfl hc) (A6 rfl hc)) ?_
  refine C5 rfl (G2 rfl rfl rfl) (fun hc => G8 rfl (A6 rfl hc) (O5 rfl hc)) ?_
  refine B1 rfl rfl (P9 rfl (A0 rfl) (F1 rfl)) ?_
  refine B1 rfl rfl (B7 rfl (A0 rfl)) ?_
  refine C5 rfl (G2 rfl rfl rfl) (fun hc => B2 1 rfl K0 rfl K2 (A0 rfl) rfl) ?_
  refine C5 rfl (G2 rfl rfl rfl) (fun hc => B0 0 rfl (A6 rfl hc) rfl K7 rfl) ?_
  refine C5 rfl (G2 rfl rfl rfl) (fun hc => B7 rfl (A6 rfl hc)) ?_
  refine C5 rfl (D6 rfl rfl rfl) (fun hc => B2 2 rfl K0 rfl B9 (A0 rfl) rfl) ?_
  refine C5 rfl (D6 rfl rfl rfl) (fun hc => B0 0 rfl (A6 rfl hc) rfl C1 rfl) ?_
  refine C5 rfl (D6 rfl rfl rfl) (fun hc => B2 0 rfl D2 rfl B9 (A0 rfl) rfl) ?_
  refine C5 rfl (D6 rfl rfl rfl) (fun hc => B0 1 rfl (A6 rfl hc) rfl C1 rfl) ?_
  refine C5 rfl (D6 rfl rfl rfl) (fun hc => D7 rfl Tryz.call39 rfl (R9 _ _ _) (A8 (A6 rfl hc) (A8 B5 (A8 (A6 rfl hc) C6)))) ?_
  refine C5 rfl (D6 rfl rfl rfl) (fun hc => K3 rfl (A6 rfl hc)) ?_
  refine C5 rfl (G2 rfl rfl rfl) (fun hc => G8 rfl (A6 rfl hc) (O5 rfl hc)) ?_
  refine B1 rfl rfl (P9 rfl (A0 rfl) (F1 rfl)) ?_
  refine B1 rfl rfl (B7 rfl (A0 rfl)) ?_
  refine C5 rfl (G2 rfl rfl rfl) (fun hc => B2 1 rfl K0 rfl K2 (A0 rfl) rfl) ?_
  refine C5 rfl (G2 rfl rfl rfl) (fun hc => B0 0 rfl (A6 rfl hc) rfl K7 rfl) ?_
  refine C5 rfl (G2 rfl rfl rfl) (fun hc => K3 rfl (A6 rfl hc)) ?_
  refine C5 rfl (G2 rfl rfl rfl) (fun hc => B7 rfl (A6 rfl hc)) ?_
  refine C5 rfl (D6 rfl rfl rfl) (fun hc => B2 2 rfl K0 rfl B9 (A0 rfl) rfl) ?_
  refine C5 rfl (D6 rfl rfl rfl) (fun hc => B0 0 rfl (A6 rfl hc) rfl C1 rfl) ?_
  refine C5 rfl (D6 rfl rfl rfl) (fun hc => t8 rfl (A6 rfl hc) B5) ?_
  refine C5 rfl (G2 rfl rfl rfl) (fun hc => G8 rfl (A6 rfl hc) (O5 rfl hc)) ?_
  refine B1 rfl rfl (P9 rfl (A0 rfl) (F1 rfl)) ?_
  refine P0 ?_
  refine C3 (A0 rfl) ?_ ?_
  ·intro h95
   have hfin : goodState s = false := by (rw [hgs2]; exact U7 hlt (by rw [AH5 hx hy, h95]; rfl))
   refine A3 (A2 ?_)
   refine A1 rfl (B3 rfl F0) ?_
   refine A4 ?_
   refine C2 ?_
   exact G1 rfl (B8 rfl (by exact congrArg AV.bool hfin.symm))
  intro h95
  refine C8 (A3 (A2 ?_))
  refine A1 rfl (I5 1 rfl (A0 rfl) rfl G7 E1 rfl) ?_
  refine A1 rfl (B2 0 rfl K0 rfl B9 (A0 rfl) rfl) ?_
  refine A1 rfl (B0 0 rfl (A0 rfl) rfl C1 rfl) ?_
  refine A1 rfl (D7 rfl Tryz.call128 rfl (AM3 _ _ (by first | assumption | omega)) (A8 (A0 rfl) (A8 (A0 rfl) C6))) ?_
  refine A5 rfl ?_
  refine A1 rfl (I1 rfl (A0 rfl) rfl) ?_
  refine A1 rfl (I1 rfl (A0 rfl) rfl) ?_
  refine H3 rfl rfl rfl rfl Tryz.zeroValue141 rfl ?_
  intro b7
  refine E9 0 rfl rfl rfl (A0 rfl) (A0 rfl) (F9 _) rfl D9 rfl ?_
  refine B4 rfl ?_
  refine A4 (A3 (A2 ?_))
  refine A5 rfl ?_
  refine A4 ?_
  refine C3 (A0 rfl) ?_ ?_
  ·intro h103
   have hfin : goodState s = false := by (rw [hgs2]; exact U7 hlt (by rw [AH5 hx hy, ← AM2, h103]; simp))
   refine A3 (A2 ?_)
   refine A1 rfl (B3 rfl F0) ?_
   refine A4 ?_
   refine C2 ?_
   exact G1 rfl (B8 rfl (by exact congrArg AV.bool hfin.symm))
  intro h103
  refine C8 (A2 ?_)
  refine A1 rfl (F6 rfl (A0 rfl) B5 (by first | omega | (simp only [D1, A7, szR] at *; omega))) ?_
  refine A5 rfl ?_
  refine A4 ?_
  refine J3 q (q + 1) ?_ ?_ (S0 2 ⟨rfl, rfl, rfl, rfl, trivial⟩)
  ·exact ⟨by omega, fun j hj => if hji : j < q then hinv.2 j hji else (by have e : j = q := (by omega); subst e; rw [AH5 hx hy, h95, ← AM2, h103]; rfl)⟩
  omega
 intro h50
 have k50 := of_decide_eq_false h50; try simp only [A9] at k50
 have hge : s.Told.length ≤ q := by omega
 have hfin : goodState s = true := by (rw [hgs2]; exact c9.2 fun j hj => hinv.2 j (by omega))
 refine G0 ?_
 refine A3 (A2 ?_)
 refine A1 rfl (B3 rfl F0) ?_
 refine A4 ?_
 refine C2 ?_
 exact G1 rfl (B8 rfl (by exact congrArg AV.bool hfin.symm))
end Go.Proofs.YtkegepoihkhihaaGreat

namespace Go.Proofs.YtkegepoihkhihaaGreat
open Go Go.AV Go.M
attribute [local irreducible] OpW OpA OpS AWP FSpec ESpec GSpec OpE RetOk RetOkG RvDen Le Ev GuardIs SrcIs
end Go.Proofs.YtkegepoihkhihaaGreat

namespace Go.Proofs.YtkegepoihkhihaaGreat
open Go Go.AV Go.M
attribute [local irreducible] OpW OpA OpS AWP FSpec ESpec GSpec OpE RetOk RetOkG RvDen Le Ev GuardIs
end Go.Proofs.YtkegepoihkhihaaGreat

namespace Go.Proofs.YtkegepoihkhihaaGreat
open Go Go.AV Go.M
attribute [local irreducible] OpW OpA OpS AWP FSpec ESpec GSpec OpE RetOk RetOkG RvDen Le Ev GuardIs SrcIs
theorem AM4 (a b : Int) : FSpec Tryz.prog 38 [AV.int a, AV.int b] (AV.int (leastI a b)) := by
 refine D8 Tryz.func38 rfl Tryz.ntmps38 rfl ?_
 refine A3 (A2 ?_)
 refine A1 rfl (B3 rfl B5) ?_
 refine A4 (A3 (A3 (A2 ?_)))
 refine A5 rfl ?_
 refine A5 rfl ?_
 refine A1 rfl (I4 rfl (A0 rfl) (A0 rfl)) ?_
 refine A4 ?_
 refine C3 (A0 rfl) ?_ ?_
 ·intro h7
  have k7 := of_decide_eq_true h7; try simp only [A9] at k7
  have he : leastI a b = a := by unfold leastI; rw [if_pos k7]
  rw [he]
  refine A3 (A2 ?_)
  refine A5 rfl ?_
  refine B4 rfl ?_
  refine A4 ?_
  refine C2 ?_
  exact G1 rfl (B8 rfl (by first | rfl | (refine congrArg AV.bool ?_; simp_all; done)))
 intro h7
 have k7 := of_decide_eq_false h7; try simp only [A9] at k7
 have he : leastI a b = b := by unfold leastI; rw [if_neg k7]
 rw [he]
 refine C8 (A3 (A2 ?_))
 refine A5 rfl ?_
 refine B4 rfl ?_
 refine A4 ?_
 refine C2 ?_
 exact G1 rfl (B8 rfl (by first | rfl | (refine congrArg AV.bool ?_; simp_all; done)))
end Go.Proofs.YtkegepoihkhihaaGreat

set_option maxHeartbeats 2000000
namespace Go.M
open Go.AV
structure SO (s : TState) : Prop where
  floor : 0 ≤ s.Floor
  cells : CellsOk s.Cells
  hsort : s.Held.Pairwise fun a b => a.Txn < b.Txn
  tsort : s.Told.Pairwise fun a b => a.Txn < b.Txn
  times : ∀ h ∈ s.Held, 1 ≤ h.Time
theorem gs_so {s : TState} (g : GS s) : SO s := ⟨g.floor.1, T9 g.cells, g.hsort, g.tsort, fun h hm => (AH4 g hm).1⟩
theorem Av1 {t : Int} : ∀ {w : List TWrite} {l q : List TCell}, CellsOk l → putAll l w t = some q → CellsOk q
  | [], l, q, h, e => by simp [putAll] at e; subst e; exact h
  | x :: w, l, q, h, e => by
    unfold putAll at e
    split at e
    · cases e
    · exact Av1 (f7 h _ _) e
theorem so_apply {s : TState} (g : SO s) {r : TRec} (h : (applyS s r).2 = true) : SO (applyS s r).1 := by
  have h0 := g.floor
  have hless : SO ⟨s.Floor, s.Cells, lessH s.Held r.Txn, s.Told⟩ := ⟨h0, g.cells, g.hsort.sublist List.filter_sublist, g.tsort, fun k hk => g.times k (Y9.1 hk).1⟩
  unfold applyS at h ⊢
  by_cases h4 : r.Kind = 4
  · rw [if_pos h4] at h ⊢
    have := of_decide_eq_true h
    exact ⟨by dsimp only; omega, g.cells, g.hsort, g.tsort, g.times⟩
  · rw [if_neg h4] at h ⊢
    by_cases hT : hasT s.Told r.Txn = true
    · rw [if_pos hT] at h; cases h
    · rw [if_neg hT] at h ⊢
      rw [Bool.not_eq_true] at hT
      have htn := AS7.1 hT
      have htl : (insT ⟨r.Txn, r.Yes, r.Time⟩ s.Told).Pairwise fun a b => a.Txn < b.Txn := AK9 g.tsort htn
      by_cases h1 : r.Kind = 1
      · rw [if_pos h1] at h ⊢
        simp only [Bool.and_eq_true, Bool.not_eq_true', decide_eq_true_eq] at h
        refine ⟨by dsimp only; omega, g.cells, AK8 g.hsort (i4.1 h.1.1), g.tsort, fun k hk => ?_⟩
        rcases d3.1 hk with rfl | hk
        · show 1 ≤ r.Time; omega
        · exact g.times k hk
      · rw [if_neg h1] at h ⊢
        by_cases hy : r.Yes = true
        · rw [if_pos hy] at h ⊢
          cases hf : findH s.Held r.Txn with
          | none => rw [hf] at h; cases h
          | some k =>
            rw [hf] at h
            dsimp only at h ⊢
            by_cases hlt : r.Time < k.Time
            · rw [if_pos hlt] at h; cases h
            · rw [if_neg hlt] at h ⊢
              by_cases hp : (putP s.Cells k.Writes r.Time).2 = true
              · rw [if_pos hp]
                exact ⟨by unfold doneS; dsimp only; split <;> omega, Av1 g.cells (AD8 hp).1, hless.hsort, htl, hless.times⟩
              · rw [if_neg hp] at h; cases h
        · rw [if_neg hy]
          exact ⟨h0, g.cells, hless.hsort, htl, hless.times⟩
theorem so_step {s : TState} (g : SO s) (r : TRec) : SO (stepS s r) := by
  unfold stepS
  split
  · exact so_apply g ‹_›
  · exact g
theorem so_zero : SO zState := gs_so AO7
theorem Av2 : ∀ {l : List TRec} {s : TState}, SO s → SO (stFrom s l)
  | [], s, g => g
  | r :: l, s, g => by
    show SO (stFrom (stepS s r) l)
    exact Av2 (so_step g r)
theorem AB4 {l : List THeld} {i : Nat} {h : THeld} {n : Int} (hx : l[i]? = some h) : lessH (l.take (i + 1)) n = if (h.Txn != n) = true then lessH (l.take i) n ++ [h] else lessH (l.take i) n := by
  unfold lessH
  rw [List.take_add_one, hx, List.filter_append]
  show _ ++ List.filter _ [h] = _
  split
  · rename_i e; rw [List.filter_cons_of_pos (p := fun h : THeld => h.Txn != n) e]; rfl
  · rename_i e; rw [List.filter_cons_of_neg (p := fun h : THeld => h.Txn != n) e]; simp
end Go.M
namespace Go.Proofs.YtkegepoihkhihaaGreat
open Go Go.AV Go.M
attribute [local irreducible] OpW OpA OpS AWP FSpec ESpec GSpec OpE RetOk RetOkG RvDen Le Ev GuardIs SrcIs Int.tmod Int.tdiv IntKind.wrap
theorem Az2 (s : TState) (rs : List Str) (ws : List TWrite) (hs : s.size ≤ 400000) (hw : sizeL TWrite.size ws ≤ 400000) : FSpec Tryz.prog 203 [AV.agg s.cs, strs rs, AV.list 3 (ws.map TWrite.cs)] (AV.bool (fits s rs ws)) := by
 obtain ⟨hs1, hs2, hs3, hs4, hs5⟩ := U9 hs
 have hrm : room s.Cells (ws ++ hWs s.Held) = room s.Cells (hWs s.Held ++ ws) := Ad4 fun w => by rw [List.mem_append, List.mem_append, or_comm]
 refine D8 Tryz.func203 rfl Tryz.ntmps203 rfl ?_
 refine A3 (A2 ?_)
 refine L6 rfl rfl rfl rfl (A0 rfl) ?_
 intro b3
 refine A1 rfl (B3 rfl F0) ?_
 refine A4 (A3 (A3 (A2 ?_)))
 refine A1 rfl (B2 2 rfl D2 rfl I6 (A0 rfl) rfl) ?_
 refine A1 rfl (B0 0 rfl (A0 rfl) rfl L8 rfl) ?_
 refine A1 rfl (G5 rfl E4 (A0 rfl)) ?_
 refine A1 rfl (B7 rfl B5) ?_
 refine A4 (D0 ?_)
 refine H4 [(1, _), (2, _), (3, _), (10, _), (11, _)] _ (fun (i : Nat) => i ≤ s.Held.length ∧ (s.Held.all fun h => apart h rs ws) = ((s.Held.drop i).all fun h => apart h rs ws)) (fun (i : Nat) => []) (fun (i : Nat) => [(12, AV.int i)]) (fun (i : Nat) => s.Held.length - i) (0) ?_ (H8 ⟨rfl, rfl, rfl, rfl, rfl, rfl, trivial⟩) ?_
 ·exact ⟨Nat.zero_le _, rfl⟩
 intro i hinv
 refine A3 (A2 ?_)
 refine A1 rfl (I4 rfl (A0 rfl) (A0 rfl)) ?_
 refine A4 (A3 ?_)
 refine C3 (A0 rfl) ?_ ?_
 ·intro h13
  have k13 := of_decide_eq_true h13; try simp only [A9] at k13
  have hlt : i < s.Held.length := by omega
  obtain ⟨h, hx⟩ := get_some hlt
  refine C8 (A3 (D0 (A3 (A2 ?_))))
  refine A1 rfl (H5 rfl E4 D9 (A0 rfl) (A0 rfl) hx (by first | omega | (simp only [D1, A7, szR] at *; omega))) ?_
  refine A1 rfl (J0 rfl (A0 rfl) J9 D9) ?_
  refine H3 rfl rfl rfl rfl Tryz.zeroValue141 rfl ?_
  intro b8
  refine E9 0 rfl rfl rfl (A0 rfl) (A0 rfl) (F9 _) rfl D9 rfl ?_
  refine A4 (A3 (A2 ?_))
  refine A1 rfl (I5 0 rfl (A0 rfl) rfl J9 D9 rfl) ?_
  refine A5 rfl ?_
  refine A5 rfl ?_
  refine A1 rfl (D7 rfl Tryz.call178 rfl (apart_spec _ _ _) (A8 (A0 rfl) (A8 (A0 rfl) (A8 (A0 rfl) C6)))) ?_
  refine A1 rfl (K3 rfl (A0 rfl)) ?_
  refine A4 ?_
  refine C3 (A0 rfl) ?_ ?_
  ·intro h20
   have hfin : fits s rs ws = false := by (unfold fits; rw [hinv.2, drop_some hx, List.all_cons, show apart h rs ws = false by simpa using h20]; rfl)
   refine A3 (A2 ?_)
   refine A1 rfl (B3 rfl F0) ?_
   refine A4 ?_
   refine C2 ?_
   exact G1 rfl (B8 rfl (by first | exact congrArg AV.bool hfin.symm | exact congrArg AV.bool (by unfold fits; rw [hap, hrm, Bool.true_and, A9]; congr 1; rw [decide_eq_decide]; omega)))
  intro h20
  refine C8 (A2 ?_)
  refine A1 rfl (F6 rfl (A0 rfl) B5 (by first | omega | (simp only [D1, A7, szR] at *; omega))) ?_
  refine A5 rfl ?_
  refine A4 ?_
  refine J3 i (i + 1) ?_ ?_ (S0 1 ⟨rfl, rfl, rfl, rfl, rfl, rfl, trivial⟩)
  ·exact ⟨by omega, by rw [hinv.2, drop_some hx, List.all_cons, show apart h rs ws = true by simpa using h20]; rfl⟩
  omega
 intro h13
 have k13 := of_decide_eq_false h13; try simp only [A9] at k13
 have hge : s.Held.length ≤ i := by omega
 have hap : (s.Held.all fun h => apart h rs ws) = true := by (rw [hinv.2, List.drop_eq_nil_of_le hge]; rfl)
 refine G0 ?_
 refine A3 (A2 ?_)
 refine A1 rfl (B2 2 rfl D2 rfl I6 (A0 rfl) rfl) ?_
 refine A1 rfl (B0 0 rfl (A0 rfl) rfl L8 rfl) ?_
 refine A1 rfl (G5 rfl E4 (A0 rfl)) ?_
 refine A1 rfl (I4 rfl (A0 rfl) B5) ?_
 refine A5 rfl ?_
 refine C4 rfl (fun hc => I5 0 rfl (A0 rfl) rfl G7 E1 rfl) ?_
 refine C4 rfl (fun hc => B7 rfl (A0 rfl)) ?_
 refine C4 rfl (fun hc => D7 rfl Tryz.call179 rfl (Az0 _ _ (by first | assumption | omega) (by first | assumption | omega)) (A8 (A6 rfl hc) (A8 (A6 rfl hc) C6))) ?_
 refine A1 rfl (G8 rfl (A0 rfl) (F1 rfl)) ?_
 refine B4 rfl ?_
 refine A4 ?_
 refine C2 ?_
 exact G1 rfl (B8 rfl (by first | exact congrArg AV.bool hfin.symm | exact congrArg AV.bool (by unfold fits; rw [hap, hrm, Bool.true_and, A9]; congr 1; rw [decide_eq_decide]; omega)))
theorem Ar8 (h : THeld) (hs : h.size ≤ 1048576) : GSpec Tryz.prog 225 [AV.agg h.cs] [] (fun _ : Value × Value => True) (fun x => THeld.ow h x) (fun x => AV.agg (THeld.ocs h x)) := by
 have h3 := M9 (f := fun x : Str => x.length) (l := h.Reads)
 have h4 := M9 (f := TWrite.size) (l := h.Writes)
 have h5 : h.size = sizeL (fun x => x.length) h.Reads + sizeL TWrite.size h.Writes := rfl
 refine N7 Tryz.func225 rfl Tryz.ntmps225 rfl ?_
 refine A3 (A2 ?_)
 refine L6 rfl rfl rfl rfl (A0 rfl) ?_
 intro b1
 refine H3 rfl rfl rfl rfl Tryz.zeroValue141 rfl ?_
 intro b2
 refine A4 (A3 (A2 ?_))
 refine A1 rfl (B2 3 rfl E8 rfl N3 (A0 rfl) rfl) ?_
 refine A1 rfl (B0 1 rfl (A0 rfl) rfl P7 rfl) ?_
 refine g8 [] rfl rfl rfl rfl Tryz.call202 rfl (u6 h.Reads (by omega)) (A8 (A0 rfl) C6) rfl ?_
 intro x5 ok5
 refine A1 rfl (B2 3 rfl E8 rfl N3 (A0 rfl) rfl) ?_
 refine v8 0 rfl fun one_x5 => ?_
 refine S4 2 rfl rfl rfl (A0 rfl) (A0 rfl) (d7 one_x5) rfl N3 rfl ?_
 refine A4 (A3 (A2 ?_))
 refine O8 rfl rfl rfl rfl F7 I2 ?_
 intro v7
 refine A1 rfl (B2 4 rfl E8 rfl K4 (A0 rfl) rfl) ?_
 refine A1 rfl (B0 3 rfl (A0 rfl) rfl L2 rfl) ?_
 refine M6 (by' := 40) 0 rfl rfl rfl rfl F7 Tryz.type101 rfl rfl rfl rfl rfl rfl (A0 rfl) (A0 rfl) rfl (by simp only [L9, A9]; omega) ?_
 intro v10_1
 refine A1 rfl (B2 4 rfl E8 rfl K4 (A0 rfl) rfl) ?_
 refine v8 0 rfl fun one_v10_1 => ?_
 refine S4 3 rfl rfl rfl (A0 rfl) (A0 rfl) (d7 one_v10_1) rfl K4 rfl ?_
 refine A4 (A3 (A2 ?_))
 refine A1 rfl (I5 3 rfl (A0 rfl) rfl J9 D9 rfl) ?_
 refine E9 2 rfl rfl rfl (A0 rfl) (A0 rfl) (F9 _) rfl D9 rfl ?_
 refine A4 ?_
 refine C2 ?_
 exact T1 [1, 0] (x5, v10_1) (trivial) rfl (by rfl) (c5 rfl (Q2 (ys := _) 2 rfl rfl J9 D9 rfl))
theorem z6 (h : THeld) (hs : h.size ≤ 1048576) : FSpec Tryz.prog 225 [AV.agg h.cs] (AV.agg h.cs) :=
  P3 (Ar8 h hs) fun x _ => AD5 (THeld.lc h x)
theorem Ar9 (l : List TCell) (hs : sizeL TCell.size l ≤ 4194304) : FSpec Tryz.prog 224 [AV.list 2 (l.map TCell.cs)] (AV.list 2 (l.map TCell.cs)) :=
  P3 (Ae3 l hs) fun x h => AG2 TCell.lcM h 0 rfl fun o ho => List.mem_cons_of_mem _ ho
theorem An3 (s : TState) (hs : s.size ≤ 1048576) : GSpec Tryz.prog 199 [AV.agg s.cs] [] (fun _ : Value × Value => True) (fun x => TState.ow s x) (fun x => AV.agg (TState.ocs s x)) := by
 obtain ⟨hs1, hs2, hs3, hs4, hs5⟩ := U9 hs
 refine N7 Tryz.func199 rfl Tryz.ntmps199 rfl ?_
 refine A3 (A2 ?_)
 refine L6 rfl rfl rfl rfl (A0 rfl) ?_
 intro b1
 refine H3 rfl rfl rfl rfl Tryz.zeroValue43 rfl ?_
 intro b2
 refine A4 (A3 ?_)
 refine a8 _ 11 (.pure 0 (.pure 1 (.pure 2 (.pure 3 (.pure 4 (.pure 6 (.pure 7 (.e2 5 (.e2 8 (.pure 9 (.e1 10 .nil)) 10 (.e1 8 (.pure 9 .nil))) 10 (.e1 5 (.e1 8 (.pure 9 .nil))))))))))) (by kernel_rfl) (by kernel_rfl) rfl q8 ?_
 refine I9 rfl rfl rfl (fun ext => B2 0 rfl D2 rfl B9 (A0 rfl) rfl) ?_
 refine I9 rfl rfl rfl (fun ext => B0 1 rfl (A0 rfl) rfl C1 rfl) ?_
 refine I9 rfl rfl rfl (fun ext => B2 1 rfl D2 rfl M4 (A0 rfl) rfl) ?_
 refine I9 rfl rfl rfl (fun ext => B0 1 rfl (A0 rfl) rfl O9 rfl) ?_
 refine I9 rfl rfl rfl (fun ext => D7 rfl Tryz.call224 rfl (Ar9 s.Cells (by omega)) (A8 (A0 rfl) C6)) ?_
 refine I9 rfl rfl rfl (fun ext => B2 3 rfl D2 rfl Q8 (A0 rfl) rfl) ?_
 refine I9 rfl rfl rfl (fun ext => B0 1 rfl (A0 rfl) rfl T6 rfl) ?_
 refine Ai7 ?_ ?_
 ·refine U0 rfl rfl rfl (X2 rfl J1 K6) (fun a _ => (by first | exact G4 rfl | exact G4 (List.append_assoc _ _ _) | exact K5)) ?_
  intro v11 _
  refine Ai7 ?_ ?_
  ·refine U0 rfl rfl rfl (n3 2 (fun _ => rfl) (N2 (by' := 24) 2 rfl J1 Tryz.type144 rfl rfl rfl rfl rfl rfl (A0 rfl) (A0 rfl) rfl (by simp only [L9, A9]; omega))) (fun a _ => (by first | exact G4 rfl | exact G4 (List.append_assoc _ _ _) | exact K5)) ?_
   intro v14_1 hone_v14_1
   have one_v14_1 := hone_v14_1.2
   refine I9 rfl rfl rfl (fun ext => O6 (places := #[(0, 1), (1, 1), (2, 1), (3, 1)]) rfl D2 Tryz.zeroValue43 (fun w => by kernel_rfl) rfl (F4 (A0 rfl) (P2 _ _) (F4 (A0 rfl) (U1 _ _) (F4 (A0 rfl) (d7 one_v14_1) J5))) rfl) ?_
   refine X3 ?_
   refine U0 rfl rfl rfl (AK3 rfl Tryz.zeroValue43 rfl) (fun a _ => (by first | exact G4 rfl | exact G4 (List.append_assoc _ _ _) | exact K5)) ?_
   intro b3 _
   refine l6 ?_
   refine E9 3 rfl rfl rfl (A0 rfl) (A0 rfl) (F9 _) rfl E1 rfl ?_
   refine A4 (A3 (A3 (A2 ?_)))
   refine A1 rfl (B2 2 rfl D2 rfl I6 (A0 rfl) rfl) ?_
   refine A1 rfl (B0 1 rfl (A0 rfl) rfl L8 rfl) ?_
   refine A1 rfl (G5 rfl E4 (A0 rfl)) ?_
   refine A1 rfl (B7 rfl B5) ?_
   refine A4 (D0 ?_)
   refine AF7 141 5 ?_
   refine AWP.le (K1 [4, 0] rfl) ?_
   refine P5 [(2, _), (3, _), (17, _), (18, _)] _ (fun (i : Nat) (v : Value) => i ≤ s.Held.length) (fun (i : Nat) (v : Value) => [.box b3 43 [AV.int s.Floor, AV.list 2 (s.Cells.map TCell.cs), AV.is v, AV.is v14_1], .arr v 141 5 ((s.Held.take i).map THeld.cs)]) (fun (i : Nat) (v : Value) => [(19, AV.int i)]) (fun (i : Nat) (v : Value) => s.Held.length - i) (0) ((Value.slice none 0 0)) ?_ (Q3 (by rfl) ⟨rfl, rfl, rfl, rfl, rfl, trivial⟩) ?_
   ·exact Nat.zero_le _
   intro i v hinv
   refine A3 (A2 ?_)
   refine A1 rfl (I4 rfl (A0 rfl) (A0 rfl)) ?_
   refine A4 (A3 ?_)
   refine C3 (A0 rfl) ?_ ?_
   ·intro h20
    have k20 := of_decide_eq_true h20; try simp only [A9] at k20
    have hlt : i < s.Held.length := by omega
    obtain ⟨h, hx⟩ := get_some hlt
    obtain ⟨g1, g2, g3, g4, g5⟩ := X4 hs2 hx
    refine C8 (A3 (D0 (A3 (A2 ?_))))
    refine A1 rfl (H5 rfl E4 D9 (A0 rfl) (A0 rfl) hx (by first | omega | (simp only [D1, A7, szR] at *; omega))) ?_
    refine A1 rfl (J0 rfl (A0 rfl) J9 D9) ?_
    refine H3 rfl rfl rfl rfl Tryz.zeroValue141 rfl ?_
    intro b5
    refine E9 0 rfl rfl rfl (A0 rfl) (A0 rfl) (F9 _) rfl D9 rfl ?_
    refine A4 ?_
    refine k0 5 (by kernel_rfl) (by kernel_rfl) rfl ?_
    refine B1 rfl rfl (B2 2 rfl D2 rfl I6 (A0 rfl) rfl) ?_
    refine B1 rfl rfl (B0 1 rfl (A0 rfl) rfl L8 rfl) ?_
    refine B1 rfl rfl (I5 0 rfl (A0 rfl) rfl J9 D9 rfl) ?_
    refine B1 rfl rfl (D7 rfl Tryz.call225 rfl (z6 _ (by first | assumption | omega)) (A8 (A0 rfl) C6)) ?_
    refine B1 rfl rfl (M0 rfl E4 D9 Tryz.zeroValue141 rfl rfl rfl rfl (F4 (A0 rfl) (F9 _) J5) rfl rfl) ?_
    refine P0 ?_
    refine M6 (by' := 72) 2 rfl rfl rfl rfl E4 Tryz.type141 rfl rfl rfl rfl rfl rfl (A0 rfl) (A0 rfl) rfl (by simp only [A9, E6, A7]; omega) ?_
    intro v28_2
    refine A1 rfl (B2 2 rfl D2 rfl I6 (A0 rfl) rfl) ?_
    refine v8 2 rfl fun one_v28_2 => ?_
    refine S4 1 rfl rfl rfl (A0 rfl) (A0 rfl) (d7 one_v28_2) rfl I6 rfl ?_
    refine A4 (A2 ?_)
    refine A1 rfl (F6 rfl (A0 rfl) B5 (by first | omega | (simp only [D1, A7, szR] at *; omega))) ?_
    refine A5 rfl ?_
    refine A4 ?_
    refine M2 i v (i + 1) (v28_2) ?_ ?_ (Le.trans (K1 [0, 0, 0] rfl) (M3 1 (by exact congrArg (fun z => Own.box b3 43 [AV.int s.Floor, AV.list 2 (s.Cells.map TCell.cs), AV.is v28_2, AV.is v14_1] :: Own.arr v28_2 141 5 z :: _) (Z7 (f := THeld.cs) hx)) ⟨rfl, rfl, rfl, rfl, rfl, trivial⟩))
    ·omega
    omega
   intro h20
   have k20 := of_decide_eq_false h20; try simp only [A9] at k20
   have hge : i = s.Held.length := by omega
   rw [hge, List.take_length]
   refine G0 ?_
   refine A3 (A2 ?_)
   refine A1 rfl (I5 0 rfl (A0 rfl) rfl G7 E1 rfl) ?_
   refine E9 2 rfl rfl rfl (A0 rfl) (A0 rfl) (F9 _) rfl E1 rfl ?_
   refine A4 ?_
   refine C2 ?_
   exact T1 [1, 3] (v, v14_1) (trivial) rfl (by rfl) (c5 rfl (Q2 (ys := _) 2 rfl rfl G7 E1 rfl))
  refine U0 rfl rfl rfl (AK3 rfl Tryz.zeroValue43 rfl) (fun a _ => (by first | exact G4 rfl | exact G4 (List.append_assoc _ _ _) | exact K5)) ?_
  intro b3 _
  refine X3 ?_
  refine U0 rfl rfl rfl (n3 2 (fun _ => rfl) (N2 (by' := 24) 2 rfl J1 Tryz.type144 rfl rfl rfl rfl rfl rfl (A0 rfl) (A0 rfl) rfl (by simp only [L9, A9]; omega))) (fun a _ => (by first | exact G4 rfl | exact G4 (List.append_assoc _ _ _) | exact K5)) ?_
  intro v14_3 hone_v14_3
  have one_v14_3 := hone_v14_3.2
  refine I9 rfl rfl rfl (fun ext => O6 (places := #[(0, 1), (1, 1), (2, 1), (3, 1)]) rfl D2 Tryz.zeroValue43 (fun w => by kernel_rfl) rfl (F4 (A0 rfl) (P2 _ _) (F4 (A0 rfl) (U1 _ _) (F4 (A0 rfl) (d7 one_v14_3) J5))) rfl) ?_
  refine l6 ?_
  refine E9 3 rfl rfl rfl (A0 rfl) (A0 rfl) (F9 _) rfl E1 rfl ?_
  refine A4 (A3 (A3 (A2 ?_)))
  refine A1 rfl (B2 2 rfl D2 rfl I6 (A0 rfl) rfl) ?_
  refine A1 rfl (B0 1 rfl (A0 rfl) rfl L8 rfl) ?_
  refine A1 rfl (G5 rfl E4 (A0 rfl)) ?_
  refine A1 rfl (B7 rfl B5) ?_
  refine A4 (D0 ?_)
  refine AF7 141 5 ?_
  refine AWP.le (K1 [4, 0] rfl) ?_
  refine P5 [(2, _), (3, _), (17, _), (18, _)] _ (fun (i : Nat) (v : Value) => i ≤ s.Held.length) (fun (i : Nat) (v : Value) => [.box b3 43 [AV.int s.Floor, AV.list 2 (s.Cells.map TCell.cs), AV.is v, AV.is v14_3], .arr v 141 5 ((s.Held.take i).map THeld.cs)]) (fun (i : Nat) (v : Value) => [(19, AV.int i)]) (fun (i : Nat) (v : Value) => s.Held.length - i) (0) ((Value.slice none 0 0)) ?_ (Q3 (by rfl) ⟨rfl, rfl, rfl, rfl, rfl, trivial⟩) ?_
  ·exact Nat.zero_le _
  intro i v hinv
  refine A3 (A2 ?_)
  refine A1 rfl (I4 rfl (A0 rfl) (A0 rfl)) ?_
  refine A4 (A3 ?_)
  refine C3 (A0 rfl) ?_ ?_
  ·intro h20
   have k20 := of_decide_eq_true h20; try simp only [A9] at k20
   have hlt : i < s.Held.length := by omega
   obtain ⟨h, hx⟩ := get_some hlt
   obtain ⟨g1, g2, g3, g4, g5⟩ := X4 hs2 hx
   refine C8 (A3 (D0 (A3 (A2 ?_))))
   refine A1 rfl (H5 rfl E4 D9 (A0 rfl) (A0 rfl) hx (by first | omega | (simp only [D1, A7, szR] at *; omega))) ?_
   refine A1 rfl (J0 rfl (A0 rfl) J9 D9) ?_
   refine H3 rfl rfl rfl rfl Tryz.zeroValue141 rfl ?_
   intro b5
   refine E9 0 rfl rfl rfl (A0 rfl) (A0 rfl) (F9 _) rfl D9 rfl ?_
   refine A4 ?_
   refine k0 5 (by kernel_rfl) (by kernel_rfl) rfl ?_
   refine B1 rfl rfl (B2 2 rfl D2 rfl I6 (A0 rfl) rfl) ?_
   refine B1 rfl rfl (B0 1 rfl (A0 rfl) rfl L8 rfl) ?_
   refine B1 rfl rfl (I5 0 rfl (A0 rfl) rfl J9 D9 rfl) ?_
   refine B1 rfl rfl (D7 rfl Tryz.call225 rfl (z6 _ (by first | assumption | omega)) (A8 (A0 rfl) C6)) ?_
   refine B1 rfl rfl (M0 rfl E4 D9 Tryz.zeroValue141 rfl rfl rfl rfl (F4 (A0 rfl) (F9 _) J5) rfl rfl) ?_
   refine P0 ?_
   refine M6 (by' := 72) 2 rfl rfl rfl rfl E4 Tryz.type141 rfl rfl rfl rfl rfl rfl (A0 rfl) (A0 rfl) rfl (by simp only [A9, E6, A7]; omega) ?_
   intro v28_4
   refine A1 rfl (B2 2 rfl D2 rfl I6 (A0 rfl) rfl) ?_
   refine v8 2 rfl fun one_v28_4 => ?_
   refine S4 1 rfl rfl rfl (A0 rfl) (A0 rfl) (d7 one_v28_4) rfl I6 rfl ?_
   refine A4 (A2 ?_)
   refine A1 rfl (F6 rfl (A0 rfl) B5 (by first | omega | (simp only [D1, A7, szR] at *; omega))) ?_
   refine A5 rfl ?_
   refine A4 ?_
   refine M2 i v (i + 1) (v28_4) ?_ ?_ (Le.trans (K1 [0, 0, 0] rfl) (M3 1 (by exact congrArg (fun z => Own.box b3 43 [AV.int s.Floor, AV.list 2 (s.Cells.map TCell.cs), AV.is v28_4, AV.is v14_3] :: Own.arr v28_4 141 5 z :: _) (Z7 (f := THeld.cs) hx)) ⟨rfl, rfl, rfl, rfl, rfl, trivial⟩))
   ·omega
   omega
  intro h20
  have k20 := of_decide_eq_false h20; try simp only [A9] at k20
  have hge : i = s.Held.length := by omega
  rw [hge, List.take_length]
  refine G0 ?_
  refine A3 (A2 ?_)
  refine A1 rfl (I5 0 rfl (A0 rfl) rfl G7 E1 rfl) ?_
  refine E9 2 rfl rfl rfl (A0 rfl) (A0 rfl) (F9 _) rfl E1 rfl ?_
  refine A4 ?_
  refine C2 ?_
  exact T1 [1, 3] (v, v14_3) (trivial) rfl (by rfl) (c5 rfl (Q2 (ys := _) 2 rfl rfl G7 E1 rfl))
 refine U0 rfl rfl rfl (AK3 rfl Tryz.zeroValue43 rfl) (fun a _ => (by first | exact G4 rfl | exact G4 (List.append_assoc _ _ _) | exact K5)) ?_
 intro b3 _
 refine X3 ?_
 refine U0 rfl rfl rfl (X2 rfl J1 K6) (fun a _ => (by first | exact G4 rfl | exact G4 (List.append_assoc _ _ _) | exact K5)) ?_
 intro v11 _
 refine X3 ?_
 refine U0 rfl rfl rfl (n3 3 (fun _ => rfl) (N2 (by' := 24) 3 rfl J1 Tryz.type144 rfl rfl rfl rfl rfl rfl (A0 rfl) (A0 rfl) rfl (by simp only [L9, A9]; omega))) (fun a _ => (by first | exact G4 rfl | exact G4 (List.append_assoc _ _ _) | exact K5)) ?_
 intro v14_5 hone_v14_5
 have one_v14_5 := hone_v14_5.2
 refine I9 rfl rfl rfl (fun ext => O6 (places := #[(0, 1), (1, 1), (2, 1), (3, 1)]) rfl D2 Tryz.zeroValue43 (fun w => by kernel_rfl) rfl (F4 (A0 rfl) (P2 _ _) (F4 (A0 rfl) (U1 _ _) (F4 (A0 rfl) (d7 one_v14_5) J5))) rfl) ?_
 refine l6 ?_
 refine E9 2 rfl rfl rfl (A0 rfl) (A0 rfl) (F9 _) rfl E1 rfl ?_
 refine A4 (A3 (A3 (A2 ?_)))
 refine A1 rfl (B2 2 rfl D2 rfl I6 (A0 rfl) rfl) ?_
 refine A1 rfl (B0 1 rfl (A0 rfl) rfl L8 rfl) ?_
 refine A1 rfl (G5 rfl E4 (A0 rfl)) ?_
 refine A1 rfl (B7 rfl B5) ?_
 refine A4 (D0 ?_)
 refine AF7 141 5 ?_
 refine AWP.le (K1 [3, 0] rfl) ?_
 refine P5 [(2, _), (3, _), (17, _), (18, _)] _ (fun (i : Nat) (v : Value) => i ≤ s.Held.length) (fun (i : Nat) (v : Value) => [.box b3 43 [AV.int s.Floor, AV.list 2 (s.Cells.map TCell.cs), AV.is v, AV.is v14_5], .arr v 141 5 ((s.Held.take i).map THeld.cs)]) (fun (i : Nat) (v : Value) => [(19, AV.int i)]) (fun (i : Nat) (v : Value) => s.Held.length - i) (0) ((Value.slice none 0 0)) ?_ (Q3 (by rfl) ⟨rfl, rfl, rfl, rfl, rfl, trivial⟩) ?_
 ·exact Nat.zero_le _
 intro i v hinv
 refine A3 (A2 ?_)
 refine A1 rfl (I4 rfl (A0 rfl) (A0 rfl)) ?_
 refine A4 (A3 ?_)
 refine C3 (A0 rfl) ?_ ?_
 ·intro h20
  have k20 := of_decide_eq_true h20; try simp only [A9] at k20
  have hlt : i < s.Held.length := by omega
  obtain ⟨h, hx⟩ := get_some hlt
  obtain ⟨g1, g2, g3, g4, g5⟩ := X4 hs2 hx
  refine C8 (A3 (D0 (A3 (A2 ?_))))
  refine A1 rfl (H5 rfl E4 D9 (A0 rfl) (A0 rfl) hx (by first | omega | (simp only [D1, A7, szR] at *; omega))) ?_
  refine A1 rfl (J0 rfl (A0 rfl) J9 D9) ?_
  refine H3 rfl rfl rfl rfl Tryz.zeroValue141 rfl ?_
  intro b5
  refine E9 0 rfl rfl rfl (A0 rfl) (A0 rfl) (F9 _) rfl D9 rfl ?_
  refine A4 ?_
  refine k0 5 (by kernel_rfl) (by kernel_rfl) rfl ?_
  refine B1 rfl rfl (B2 2 rfl D2 rfl I6 (A0 rfl) rfl) ?_
  refine B1 rfl rfl (B0 1 rfl (A0 rfl) rfl L8 rfl) ?_
  refine B1 rfl rfl (I5 0 rfl (A0 rfl) rfl J9 D9 rfl) ?_
  refine B1 rfl rfl (D7 rfl Tryz.call225 rfl (z6 _ (by first | assumption | omega)) (A8 (A0 rfl) C6)) ?_
  refine B1 rfl rfl (M0 rfl E4 D9 Tryz.zeroValue141 rfl rfl rfl rfl (F4 (A0 rfl) (F9 _) J5) rfl rfl) ?_
  refine P0 ?_
  refine M6 (by' := 72) 2 rfl rfl rfl rfl E4 Tryz.type141 rfl rfl rfl rfl rfl rfl (A0 rfl) (A0 rfl) rfl (by simp only [A9, E6, A7]; omega) ?_
  intro v28_6
  refine A1 rfl (B2 2 rfl D2 rfl I6 (A0 rfl) rfl) ?_
  refine v8 2 rfl fun one_v28_6 => ?_
  refine S4 1 rfl rfl rfl (A0 rfl) (A0 rfl) (d7 one_v28_6) rfl I6 rfl ?_
  refine A4 (A2 ?_)
  refine A1 rfl (F6 rfl (A0 rfl) B5 (by first | omega | (simp only [D1, A7, szR] at *; omega))) ?_
  refine A5 rfl ?_
  refine A4 ?_
  refine M2 i v (i + 1) (v28_6) ?_ ?_ (Le.trans (K1 [0, 0, 0] rfl) (M3 1 (by exact congrArg (fun z => Own.box b3 43 [AV.int s.Floor, AV.list 2 (s.Cells.map TCell.cs), AV.is v28_6, AV.is v14_5] :: Own.arr v28_6 141 5 z :: _) (Z7 (f := THeld.cs) hx)) ⟨rfl, rfl, rfl, rfl, rfl, trivial⟩))
  ·omega
  omega
 intro h20
 have k20 := of_decide_eq_false h20; try simp only [A9] at k20
 have hge : i = s.Held.length := by omega
 rw [hge, List.take_length]
 refine G0 ?_
 refine A3 (A2 ?_)
 refine A1 rfl (I5 0 rfl (A0 rfl) rfl G7 E1 rfl) ?_
 refine E9 2 rfl rfl rfl (A0 rfl) (A0 rfl) (F9 _) rfl E1 rfl ?_
 refine A4 ?_
 refine C2 ?_
 exact T1 [1, 3] (v, v14_5) (trivial) rfl (by rfl) (c5 rfl (Q2 (ys := _) 2 rfl rfl G7 E1 rfl))
theorem Ah6 (s : TState) (hs : s.size ≤ 1048576) : FSpec Tryz.prog 199 [AV.agg s.cs] (AV.agg s.cs) :=
  P3 (An3 s hs) fun x _ => AD5 (TState.lc s x)
theorem less_own (l : List THeld) (n : Int) (hl : l.length ≤ 1048576) : GSpec Tryz.prog 205 [AV.list 5 (l.map THeld.cs), AV.int n] [] (fun _ : Value => True) (fun v => [.arr v 141 5 ((lessH l n).map THeld.cs)]) (fun v => AV.is v) := by
 refine N7 Tryz.func205 rfl Tryz.ntmps205 rfl ?_
 refine A3 (A2 ?_)
 refine A1 rfl (B3 rfl P8) ?_
 refine A4 (A3 (A2 ?_))
 refine AA4 141 5 rfl rfl rfl rfl P8 ?_
 intro v5
 refine A4 (A3 (A3 (A2 ?_)))
 refine A5 rfl ?_
 refine A1 rfl (G5 rfl E4 (A0 rfl)) ?_
 refine A1 rfl (B7 rfl B5) ?_
 refine A4 (D0 ?_)
 refine T5 [(1, _), (4, _), (8, _), (9, _)] _ (fun (i : Nat) (v : Value) (q : List THeld) => i ≤ l.length ∧ q = lessH (l.take i) n ∧ q.length ≤ i) (fun (i : Nat) (v : Value) (q : List THeld) => [.arr v 141 5 (q.map THeld.cs)]) (fun (i : Nat) (v : Value) (q : List THeld) => [(5, AV.is v), (10, AV.int i)]) (fun (i : Nat) (v : Value) (q : List THeld) => l.length - i) (0) (v5) ([]) ?_ (Q3 (by rfl) ⟨rfl, rfl, rfl, rfl, rfl, rfl, trivial⟩) ?_
 ·exact ⟨Nat.zero_le _, rfl, Nat.le_refl _⟩
 intro i v q hinv
 refine A3 (A2 ?_)
 refine A1 rfl (I4 rfl (A0 rfl) (A0 rfl)) ?_
 refine A4 (A3 ?_)
 refine C3 (A0 rfl) ?_ ?_
 ·intro h11
  have k11 := of_decide_eq_true h11; try simp only [A9] at k11
  have hlt : i < l.length := by omega
  obtain ⟨h, hx⟩ := get_some hlt
  refine C8 (A3 (D0 (A3 (A2 ?_))))
  refine A1 rfl (H5 rfl E4 D9 (A0 rfl) (A0 rfl) hx (by first | omega | (simp only [D1, A7, szR] at *; omega))) ?_
  refine A1 rfl (J0 rfl (A0 rfl) J9 D9) ?_
  refine H3 rfl rfl rfl rfl Tryz.zeroValue141 rfl ?_
  intro b7
  refine E9 0 rfl rfl rfl (A0 rfl) (A0 rfl) (F9 _) rfl D9 rfl ?_
  refine A4 (A3 (A2 ?_))
  refine A1 rfl (B2 0 rfl E8 rfl B9 (A0 rfl) rfl) ?_
  refine A1 rfl (B0 0 rfl (A0 rfl) rfl C1 rfl) ?_
  refine A5 rfl ?_
  refine A1 rfl (t8 rfl (A0 rfl) (A0 rfl)) ?_
  refine A4 ?_
  refine C3 (A0 rfl) ?_ ?_
  ·intro h17
   have k17 := p7 h17; try simp only [A9] at k17
   refine A2 ?_
   refine A5 rfl ?_
   refine A1 rfl (I5 0 rfl (A0 rfl) rfl J9 D9 rfl) ?_
   refine A1 rfl (M0 rfl E4 D9 Tryz.zeroValue141 rfl rfl rfl rfl (F4 (A0 rfl) (F9 _) J5) rfl rfl) ?_
   refine M6 (by' := 72) 1 rfl rfl rfl rfl E4 Tryz.type141 rfl rfl rfl rfl rfl rfl (A0 rfl) (A0 rfl) rfl (by first | omega | (simp only [D1, A7, szR] at *; omega)) ?_
   intro v21_1
   refine B4 rfl ?_
   refine A4 (A2 ?_)
   refine A1 rfl (F6 rfl (A0 rfl) B5 (by first | omega | (simp only [D1, A7, szR] at *; omega))) ?_
   refine A5 rfl ?_
   refine A4 ?_
   refine S9 i v q (i + 1) (v21_1) (q ++ [h]) ?_ ?_ (Le.trans (K1 [0, 0] rfl) (M3 1 (by first | rfl | (rw [List.map_append]; rfl)) ⟨rfl, rfl, rfl, rfl, rfl, rfl, trivial⟩))
   ·first | exact ⟨by omega, by rw [AB4 hx, if_pos h17, hinv.2.1], by rw [J4]; simp; omega⟩ | exact ⟨by omega, by rw [AB4 hx, if_neg (by rw [h17]; decide), hinv.2.1], by omega⟩
   omega
  intro h17
  have k17 := X1 h17; try simp only [A9] at k17
  refine C8 (A2 ?_)
  refine A1 rfl (F6 rfl (A0 rfl) B5 (by first | omega | (simp only [D1, A7, szR] at *; omega))) ?_
  refine A5 rfl ?_
  refine A4 ?_
  refine S9 i v q (i + 1) (v) (q) ?_ ?_ (Le.trans (K1 [0, 0] rfl) (M3 1 (by first | rfl | (rw [List.map_append]; rfl)) ⟨rfl, rfl, rfl, rfl, rfl, rfl, trivial⟩))
  ·first | exact ⟨by omega, by rw [AB4 hx, if_pos h17, hinv.2.1], by rw [J4]; simp; omega⟩ | exact ⟨by omega, by rw [AB4 hx, if_neg (by rw [h17]; decide), hinv.2.1], by omega⟩
  omega
 intro h11
 have k11 := of_decide_eq_false h11; try simp only [A9] at k11
 have hge : l.length ≤ i := by omega
 have hq := hinv.2.1
 rw [List.take_of_length_le hge] at hq
 rw [← hq]
 refine G0 ?_
 refine A3 (A2 ?_)
 refine A5 rfl ?_
 refine B4 rfl ?_
 refine A4 ?_
 refine C2 ?_
 exact T1 [0] v (trivial) rfl (by rfl) (c5 rfl (B8 rfl (by rfl)))
theorem Ae7 (l : List THeld) (n : Int) (hl : l.length ≤ 1048576) : FSpec Tryz.prog 205 [AV.list 5 (l.map THeld.cs), AV.int n] (AV.list 5 ((lessH l n).map THeld.cs)) :=
  P3 (less_own l n hl) fun x _ => Q4 (List.mem_singleton.2 rfl) L7
theorem put_csH (l : List THeld) (k : Nat) (x : THeld) : (l.take k ++ x :: l.drop k).map THeld.cs = [] ++ (l.take (k : Int).toNat).map THeld.cs ++ [x.cs] ++ ([] ++ (l.drop (k : Int).toNat).map THeld.cs) := by simp
theorem As0 (l : List THeld) (h : THeld) (hs : l.Pairwise fun a b => a.Txn < b.Txn) (hl : l.length ≤ 1048576) : GSpec Tryz.prog 201 [AV.list 5 (l.map THeld.cs), AV.agg h.cs] [] (fun _ : Value => True) (fun v => [.arr v 141 5 ((insH h l).map THeld.cs)]) (fun v => AV.is v) := by
 refine N7 Tryz.func201 rfl Tryz.ntmps201 rfl ?_
 refine A3 (A2 ?_)
 refine L6 rfl rfl rfl rfl (A0 rfl) ?_
 intro b3
 refine A1 rfl (B3 rfl P8) ?_
 refine A4 (A3 (A2 ?_))
 refine A5 rfl ?_
 refine A1 rfl (G5 rfl E4 (A0 rfl)) ?_
 refine B4 rfl ?_
 refine A4 (A3 (D0 ?_))
 refine H4 [(0, _), (3, _), (4, _)] _ (fun (k : Nat) => k ≤ l.length ∧ ∀ i y, k ≤ i → l[i]? = some y → h.Txn < y.Txn) (fun (k : Nat) => []) (fun (k : Nat) => [(5, AV.int k)]) (fun (k : Nat) => k) (l.length) ?_ (H8 ⟨congrArg (fun z => some (AV.int z)) (by rw [A9]), rfl, rfl, rfl, trivial⟩) ?_
 ·exact ⟨Nat.le_refl _, fun i y h1 h2 => by (have := (List.getElem?_eq_some_iff.1 h2).1; omega)⟩
 intro k hinv
 obtain ⟨y, hy0⟩ : ∃ y : THeld, 0 < k → l[k - 1]? = some y := by (by_cases h9 : 0 < k; (have h8 := hinv.1; exact ⟨_, fun _ => List.getElem?_eq_getElem (show k - 1 < l.length by omega)⟩); exact ⟨h, fun h8 => absurd h8 h9⟩)
 have hk1 : 0 < k → ((k : Int) - 1).toNat = k - 1 := fun _ => by omega
 refine A3 (A3 ?_)
 refine I3 (by kernel_rfl) (by kernel_rfl) rfl ?_
 refine B1 rfl rfl (B7 rfl (A0 rfl)) ?_
 refine B1 rfl rfl (N6 rfl (A0 rfl) B5) ?_
 refine B1 rfl rfl (B7 rfl (A0 rfl)) ?_
 refine C5 rfl (H0 rfl rfl rfl) (fun hc => B7 rfl (A0 rfl)) ?_
 refine C5 rfl (H0 rfl rfl rfl) (fun hc => B7 rfl (A0 rfl)) ?_
 refine C5 rfl (H0 rfl rfl rfl) (fun hc => Q5 rfl (A6 rfl hc) B5 (by first | omega | ((try simp only [D1, A7, szR] at *); omega) | (have hc2 := hc; simp only [M7, beq_iff_eq, bne_iff_ne, A9, E6] at hc2; omega))) ?_
 refine C5 rfl (H0 rfl rfl rfl) (fun hc => d6 rfl E4 D9 (A6 rfl hc) (A6 rfl hc) (by have := of_decide_eq_true hc; have := hinv.1; omega) (by have h9 := of_decide_eq_true hc; rw [hk1 (by omega), List.getElem?_map, hy0 (by omega)]; rfl)) ?_
 refine C5 rfl (H0 rfl rfl rfl) (fun hc => R7 rfl E8 rfl B9 (A6 rfl hc) rfl) ?_
 refine C5 rfl (H0 rfl rfl rfl) (fun hc => L3 rfl (A6 rfl hc) C1 rfl) ?_
 refine C5 rfl (H0 rfl rfl rfl) (fun hc => B2 0 rfl E8 rfl B9 (A0 rfl) rfl) ?_
 refine C5 rfl (H0 rfl rfl rfl) (fun hc => B0 0 rfl (A6 rfl hc) rfl C1 rfl) ?_
 refine C5 rfl (H0 rfl rfl rfl) (fun hc => N6 rfl (A6 rfl hc) (A6 rfl hc)) ?_
 refine B1 rfl rfl (G8 rfl (A0 rfl) (F1 rfl)) ?_
 refine P0 ?_
 refine C3 (A0 rfl) ?_ ?_
 ·intro h21
  have hkt : 0 < k ∧ h.Txn < y.Txn := by simpa using h21
  refine C8 (D0 (A2 ?_))
  refine A5 rfl ?_
  refine A1 rfl (Q5 rfl (A0 rfl) B5 (by first | omega | (simp only [D1, A7, szR] at *; omega))) ?_
  refine B4 rfl ?_
  refine A4 ?_
  refine c0 ?_
  refine J3 k (k - 1) ?_ ?_ (H8 ⟨congrArg (fun z => some (AV.int z)) (by omega), rfl, rfl, rfl, trivial⟩)
  ·exact ⟨by omega, fun i z hi hz => if e : k ≤ i then hinv.2 i z e hz else (by have e2 : i = k - 1 := (by omega); subst e2; rw [hy0 hkt.1] at hz; injection hz with hz; subst hz; exact hkt.2)⟩
  omega
 intro h21
 have hng : 0 < k → ¬ h.Txn < y.Txn := fun h9 => by simpa [h9] using h21
 have hput : insH h l = l.take k ++ h :: l.drop k := Ae4 hinv.1 (fun i x hi hx => by have h7 := hy0 (by omega); have h8 := hng (by omega); rcases Nat.lt_or_ge i (k - 1) with h6 | h6; (have := AO9 (f := THeld.Txn) hs h6 hx h7; omega); (have : i = k - 1 := (by omega); subst this; rw [hx] at h7; injection h7 with h7; subst h7; omega)) (fun x hx => hinv.2 k x (Nat.le_refl _) hx)
 rw [hput]
 refine G0 ?_
 refine A3 (A2 ?_)
 refine O8 rfl rfl rfl rfl E4 D9 ?_
 intro v24
 refine A5 rfl ?_
 refine A5 rfl ?_
 refine A1 rfl (Ab7 rfl E4 D9 (A0 rfl) (A0 rfl) (by omega) (by first | omega | (simp only [A9]; omega))) ?_
 refine M6 (by' := 72) 0 rfl rfl rfl rfl E4 Tryz.type141 rfl rfl rfl rfl rfl rfl (A0 rfl) (A0 rfl) rfl (by simp only [L9, A9, List.length_drop]; omega) ?_
 intro v28_1
 refine B4 rfl ?_
 refine A4 (A3 ?_)
 refine AWP.le (W7 [0] 6 rfl rfl (Q4 (G6 (i := 0) rfl) L7) T0) ?_
 refine W4 _ [(1, false), (2, false), (3, false), (5, false), (6, false), (8, false), (0, true), (4, true), (7, true), (9, true)] (by kernel_rfl) (by kernel_rfl) rfl q8 ?_
 refine J2 rfl rfl rfl (fun ext => B7 rfl (A0 rfl)) ?_
 refine J2 rfl rfl rfl (fun ext => B7 rfl (A0 rfl)) ?_
 refine J2 rfl rfl rfl (fun ext => AA5 rfl E4 D9 (A0 rfl) (A0 rfl) (by omega) (by first | omega | (simp only [A9]; omega))) ?_
 refine J2 rfl rfl rfl (fun ext => I5 0 rfl (A0 rfl) rfl J9 D9 rfl) ?_
 refine J2 rfl rfl rfl (fun ext => M0 rfl E4 D9 Tryz.zeroValue141 rfl rfl rfl rfl (F4 (A0 rfl) (F9 _) J5) rfl rfl) ?_
 refine J2 rfl rfl rfl (fun ext => B7 rfl (A0 rfl)) ?_
 refine U3 rfl rfl rfl (X2 rfl E4 D9) (fun a _ => (by first | exact G4 rfl | exact G4 (List.append_assoc _ _ _) | exact K5)) ?_
 intro v29 _
 refine U3 rfl rfl rfl (N2 (by' := 72) 1 rfl E4 Tryz.type141 rfl rfl rfl rfl rfl rfl (A0 rfl) (A0 rfl) rfl (by simp only [L9, List.nil_append, J4, E6, List.length_drop, J7, A9, A7]; omega)) (fun a _ => (by first | exact G4 rfl | exact G4 (List.append_assoc _ _ _) | exact K5)) ?_
 intro v33_2 _
 refine U3 rfl rfl rfl (N2 (by' := 72) 1 rfl E4 Tryz.type141 rfl rfl rfl rfl rfl rfl (A0 rfl) (A0 rfl) rfl (by simp only [L9, List.nil_append, J4, E6, List.length_drop, J7, A9, A7]; omega)) (fun a _ => (by first | exact G4 rfl | exact G4 (List.append_assoc _ _ _) | exact K5)) ?_
 intro v36_3 _
 refine U3 rfl rfl rfl (N2 (by' := 72) 1 rfl E4 Tryz.type141 rfl rfl rfl rfl rfl rfl (A0 rfl) (A0 rfl) rfl (by simp only [L9, List.nil_append, J4, E6, List.length_drop, J7, A9, A7]; omega)) (fun a _ => (by first | exact G4 rfl | exact G4 (List.append_assoc _ _ _) | exact K5)) ?_
 intro v38_4 _
 refine AD6 ?_
 refine B4 rfl ?_
 refine A4 ?_
 refine C2 ?_
 exact T1 [1] v38_4 (trivial) rfl (by first | rfl | exact congrArg (fun z => [Own.arr _ 141 5 z]) (put_csH _ _ _)) (c5 rfl (B8 rfl (by rfl)))
theorem An4 (l : List THeld) (h : THeld) (hs : l.Pairwise fun a b => a.Txn < b.Txn) (hl : l.length ≤ 1048576) : FSpec Tryz.prog 201 [AV.list 5 (l.map THeld.cs), AV.agg h.cs] (AV.list 5 ((insH h l).map THeld.cs)) :=
  P3 (As0 l h hs hl) fun x _ => Q4 (List.mem_singleton.2 rfl) L7
theorem put_csT (l : List TTold) (k : Nat) (x : TTold) : (l.take k ++ x :: l.drop k).map TTold.cs = [] ++ (l.take (k : Int).toNat).map TTold.cs ++ [x.cs] ++ ([] ++ (l.drop (k : Int).toNat).map TTold.cs) := by simp
theorem As1 (l : List TTold) (h : TTold) (hs : l.Pairwise fun a b => a.Txn < b.Txn) (hl : l.length ≤ 1048576) : GSpec Tryz.prog 206 [AV.list 3 (l.map TTold.cs), AV.agg h.cs] [] (fun _ : Value => True) (fun v => [.arr v 144 3 ((insT h l).map TTold.cs)]) (fun v => AV.is v) := by
 refine N7 Tryz.func206 rfl Tryz.ntmps206 rfl ?_
 refine A3 (A2 ?_)
 refine L6 rfl rfl rfl rfl (A0 rfl) ?_
 intro b3
 refine A1 rfl (B3 rfl P8) ?_
 refine A4 (A3 (A2 ?_))
 refine A5 rfl ?_
 refine A1 rfl (G5 rfl J1 (A0 rfl)) ?_
 refine B4 rfl ?_
 refine A4 (A3 (D0 ?_))
 refine H4 [(0, _), (3, _), (4, _)] _ (fun (k : Nat) => k ≤ l.length ∧ ∀ i y, k ≤ i → l[i]? = some y → h.Txn < y.Txn) (fun (k : Nat) => []) (fun (k : Nat) => [(5, AV.int k)]) (fun (k : Nat) => k) (l.length) ?_ (H8 ⟨congrArg (fun z => some (AV.int z)) (by rw [A9]), rfl, rfl, rfl, trivial⟩) ?_
 ·exact ⟨Nat.le_refl _, fun i y h1 h2 => by (have := (List.getElem?_eq_some_iff.1 h2).1; omega)⟩
 intro k hinv
 obtain ⟨y, hy0⟩ : ∃ y : TTold, 0 < k → l[k - 1]? = some y := by (by_cases h9 : 0 < k; (have h8 := hinv.1; exact ⟨_, fun _ => List.getElem?_eq_getElem (show k - 1 < l.length by omega)⟩); exact ⟨h, fun h8 => absurd h8 h9⟩)
 have hk1 : 0 < k → ((k : Int) - 1).toNat = k - 1 := fun _ => by omega
 refine A3 (A3 ?_)
 refine I3 (by kernel_rfl) (by kernel_rfl) rfl ?_
 refine B1 rfl rfl (B7 rfl (A0 rfl)) ?_
 refine B1 rfl rfl (N6 rfl (A0 rfl) B5) ?_
 refine B1 rfl rfl (B7 rfl (A0 rfl)) ?_
 refine C5 rfl (H0 rfl rfl rfl) (fun hc => B7 rfl (A0 rfl)) ?_
 refine C5 rfl (H0 rfl rfl rfl) (fun hc => B7 rfl (A0 rfl)) ?_
 refine C5 rfl (H0 rfl rfl rfl) (fun hc => Q5 rfl (A6 rfl hc) B5 (by first | omega | ((try simp only [D1, A7, szR] at *); omega) | (have hc2 := hc; simp only [M7, beq_iff_eq, bne_iff_ne, A9, E6] at hc2; omega))) ?_
 refine C5 rfl (H0 rfl rfl rfl) (fun hc => d6 rfl J1 K6 (A6 rfl hc) (A6 rfl hc) (by have := of_decide_eq_true hc; have := hinv.1; omega) (by have h9 := of_decide_eq_true hc; rw [hk1 (by omega), List.getElem?_map, hy0 (by omega)]; rfl)) ?_
 refine C5 rfl (H0 rfl rfl rfl) (fun hc => R7 rfl K0 rfl B9 (A6 rfl hc) rfl) ?_
 refine C5 rfl (H0 rfl rfl rfl) (fun hc => L3 rfl (A6 rfl hc) C1 rfl) ?_
 refine C5 rfl (H0 rfl rfl rfl) (fun hc => B2 0 rfl K0 rfl B9 (A0 rfl) rfl) ?_
 refine C5 rfl (H0 rfl rfl rfl) (fun hc => B0 0 rfl (A6 rfl hc) rfl C1 rfl) ?_
 refine C5 rfl (H0 rfl rfl rfl) (fun hc => N6 rfl (A6 rfl hc) (A6 rfl hc)) ?_
 refine B1 rfl rfl (G8 rfl (A0 rfl) (F1 rfl)) ?_
 refine P0 ?_
 refine C3 (A0 rfl) ?_ ?_
 ·intro h21
  have hkt : 0 < k ∧ h.Txn < y.Txn := by simpa using h21
  refine C8 (D0 (A2 ?_))
  refine A5 rfl ?_
  refine A1 rfl (Q5 rfl (A0 rfl) B5 (by first | omega | (simp only [D1, A7, szR] at *; omega))) ?_
  refine B4 rfl ?_
  refine A4 ?_
  refine c0 ?_
  refine J3 k (k - 1) ?_ ?_ (H8 ⟨congrArg (fun z => some (AV.int z)) (by omega), rfl, rfl, rfl, trivial⟩)
  ·exact ⟨by omega, fun i z hi hz => if e : k ≤ i then hinv.2 i z e hz else (by have e2 : i = k - 1 := (by omega); subst e2; rw [hy0 hkt.1] at hz; injection hz with hz; subst hz; exact hkt.2)⟩
  omega
 intro h21
 have hng : 0 < k → ¬ h.Txn < y.Txn := fun h9 => by simpa [h9] using h21
 have hput : insT h l = l.take k ++ h :: l.drop k := Ae5 hinv.1 (fun i x hi hx => by have h7 := hy0 (by omega); have h8 := hng (by omega); rcases Nat.lt_or_ge i (k - 1) with h6 | h6; (have := AO9 (f := TTold.Txn) hs h6 hx h7; omega); (have : i = k - 1 := (by omega); subst this; rw [hx] at h7; injection h7 with h7; subst h7; omega)) (fun x hx => hinv.2 k x (Nat.le_refl _) hx)
 rw [hput]
 refine G0 ?_
 refine A3 (A2 ?_)
 refine O8 rfl rfl rfl rfl J1 K6 ?_
 intro v24
 refine A5 rfl ?_
 refine A5 rfl ?_
 refine A1 rfl (Ab7 rfl J1 K6 (A0 rfl) (A0 rfl) (by omega) (by first | omega | (simp only [A9]; omega))) ?_
 refine M6 (by' := 24) 0 rfl rfl rfl rfl J1 Tryz.type144 rfl rfl rfl rfl rfl rfl (A0 rfl) (A0 rfl) rfl (by simp only [L9, A9, List.length_drop]; omega) ?_
 intro v28_1
 refine B4 rfl ?_
 refine A4 (A3 ?_)
 refine AWP.le (W7 [0] 6 rfl rfl (Q4 (G6 (i := 0) rfl) L7) T0) ?_
 refine W4 _ [(1, false), (2, false), (3, false), (5, false), (6, false), (8, false), (0, true), (4, true), (7, true), (9, true)] (by kernel_rfl) (by kernel_rfl) rfl q8 ?_
 refine J2 rfl rfl rfl (fun ext => B7 rfl (A0 rfl)) ?_
 refine J2 rfl rfl rfl (fun ext => B7 rfl (A0 rfl)) ?_
 refine J2 rfl rfl rfl (fun ext => AA5 rfl J1 K6 (A0 rfl) (A0 rfl) (by omega) (by first | omega | (simp only [A9]; omega))) ?_
 refine J2 rfl rfl rfl (fun ext => I5 0 rfl (A0 rfl) rfl W8 K6 rfl) ?_
 refine J2 rfl rfl rfl (fun ext => M0 rfl J1 K6 Tryz.zeroValue144 rfl rfl rfl rfl (F4 (A0 rfl) (F9 _) J5) rfl rfl) ?_
 refine J2 rfl rfl rfl (fun ext => B7 rfl (A0 rfl)) ?_
 refine U3 rfl rfl rfl (X2 rfl J1 K6) (fun a _ => (by first | exact G4 rfl | exact G4 (List.append_assoc _ _ _) | exact K5)) ?_
 intro v29 _
 refine U3 rfl rfl rfl (N2 (by' := 24) 1 rfl J1 Tryz.type144 rfl rfl rfl rfl rfl rfl (A0 rfl) (A0 rfl) rfl (by simp only [L9, List.nil_append, J4, E6, List.length_drop, J7, A9, A7]; omega)) (fun a _ => (by first | exact G4 rfl | exact G4 (List.append_assoc _ _ _) | exact K5)) ?_
 intro v33_2 _
 refine U3 rfl rfl rfl (N2 (by' := 24) 1 rfl J1 Tryz.type144 rfl rfl rfl rfl rfl rfl (A0 rfl) (A0 rfl) rfl (by simp only [L9, List.nil_append, J4, E6, List.length_drop, J7, A9, A7]; omega)) (fun a _ => (by first | exact G4 rfl | exact G4 (List.append_assoc _ _ _) | exact K5)) ?_
 intro v36_3 _
 refine U3 rfl rfl rfl (N2 (by' := 24) 1 rfl J1 Tryz.type144 rfl rfl rfl rfl rfl rfl (A0 rfl) (A0 rfl) rfl (by simp only [L9, List.nil_append, J4, E6, List.length_drop, J7, A9, A7]; omega)) (fun a _ => (by first | exact G4 rfl | exact G4 (List.append_assoc _ _ _) | exact K5)) ?_
 intro v38_4 _
 refine AD6 ?_
 refine B4 rfl ?_
 refine A4 ?_
 refine C2 ?_
 exact T1 [1] v38_4 (trivial) rfl (by first | rfl | exact congrArg (fun z => [Own.arr _ 144 3 z]) (put_csT _ _ _)) (c5 rfl (B8 rfl (by rfl)))
theorem AM5 (l : List TTold) (h : TTold) (hs : l.Pairwise fun a b => a.Txn < b.Txn) (hl : l.length ≤ 1048576) : FSpec Tryz.prog 206 [AV.list 3 (l.map TTold.cs), AV.agg h.cs] (AV.list 3 ((insT h l).map TTold.cs)) :=
  P3 (As1 l h hs hl) fun x _ => Q4 (List.mem_singleton.2 rfl) L7
theorem As2 (l : List TCell) (w : List TWrite) (t : Int) (ho : CellsOk l) (hs : sizeL TCell.size l ≤ 1048576) (hw : sizeL TWrite.size w ≤ 1048576) (ht1 : 1 ≤ t) : FSpec Tryz.prog 204 [AV.list 2 (l.map TCell.cs), AV.list 3 (w.map TWrite.cs), AV.int t] (AV.tup [AV.list 2 ((putP l w t).1.map TCell.cs), AV.bool (putP l w t).2]) :=
  P3 (BC7 l w t ho hs hw ht1) fun x h => AV0 (H9 (AG2 TCell.lcM h 0 rfl fun o ho => List.mem_cons_of_mem _ ho) (H9 L0 V8))
theorem An5 (l : List Str) (hl : l.length ≤ 4194304) : FSpec Tryz.prog 202 [strs l] (strs l) :=
  P3 (u6 l hl) fun x _ => Q4 (List.mem_singleton.2 rfl) L7
theorem AM6 (a b : Int) : FSpec Tryz.prog 62 [AV.int a, AV.int b] (AV.int (if a < b then b else a)) := by
 refine D8 Tryz.func62 rfl Tryz.ntmps62 rfl ?_
 refine A3 (A2 ?_)
 refine A1 rfl (B3 rfl B5) ?_
 refine A4 (A3 (A3 (A2 ?_)))
 refine A5 rfl ?_
 refine A5 rfl ?_
 refine A1 rfl (N6 rfl (A0 rfl) (A0 rfl)) ?_
 refine A4 ?_
 refine C3 (A0 rfl) ?_ ?_
 ·intro h7
  have k7 := of_decide_eq_true h7; try simp only [A9] at k7
  have h9 := of_decide_eq_true h7
  refine A3 (A2 ?_)
  refine A5 rfl ?_
  refine B4 rfl ?_
  refine A4 ?_
  refine C2 ?_
  exact G1 rfl (B8 rfl (by exact congrArg AV.int (by split <;> omega)))
 intro h7
 have k7 := of_decide_eq_false h7; try simp only [A9] at k7
 have h9 := of_decide_eq_false h7
 refine C8 (A3 (A2 ?_))
 refine A5 rfl ?_
 refine B4 rfl ?_
 refine A4 ?_
 refine C2 ?_
 exact G1 rfl (B8 rfl (by exact congrArg AV.int (by split <;> omega)))
theorem As3 (s : TState) (r : TRec) (g : SO s) (hs : s.size ≤ 300000) (hrs : r.size ≤ 300000) : FSpec Tryz.prog 164 [AV.agg s.cs, AV.agg r.cs] (AV.tup [AV.agg (applyS s r).1.cs, AV.bool (applyS s r).2]) := by
 obtain ⟨hs1, hs2, hs3, hs4, hs5⟩ := U9 hs
 have hgc := g.cells
 have hgh := g.hsort
 have hgt := g.tsort
 have hr2 : r.size = sizeL (fun x : Str => x.length) r.Reads + sizeL TWrite.size r.Writes := rfl
 have hr3 := M9 (f := fun x : Str => x.length) (l := r.Reads)
 have hr4 := M9 (f := TWrite.size) (l := r.Writes)
 have hho := AM2 s.Held r.Txn
 have hto := BD0 s.Told r.Txn
 obtain ⟨h, hh⟩ : ∃ h, (heldFO s.Held r.Txn).1 = h := ⟨_, rfl⟩
 have hf1 : hasH s.Held r.Txn = true → findH s.Held r.Txn = some h := fun e => by
  rw [← hho] at e
  unfold heldFO at hh e
  cases hf : findH s.Held r.Txn with
  | none => rw [hf] at e; cases e
  | some x => rw [hf] at hh; exact congrArg some hh
 have hf0 : hasH s.Held r.Txn = false → findH s.Held r.Txn = none := fun e => AW1.2 e
 have hhs : hasH s.Held r.Txn = true → h.size ≤ 300000 ∧ 1 ≤ h.Time := fun e => by
  obtain ⟨h1, h2⟩ := l7 (hf1 e)
  obtain ⟨i, hi⟩ := List.getElem?_of_mem h1
  exact ⟨(X4 hs2 hi).1, g.times h h1⟩
 have hlen := AR2 s.Held r.Txn
 have hll : (lessH s.Held r.Txn).length ≤ s.Held.length := List.length_filter_le _ _
 refine D8 Tryz.func164 rfl Tryz.ntmps164 rfl ?_
 refine A3 (A2 ?_)
 refine L6 rfl rfl rfl rfl (A0 rfl) ?_
 intro b2
 refine L6 rfl rfl rfl rfl (A0 rfl) ?_
 intro b3
 refine H3 rfl rfl rfl rfl Tryz.zeroValue43 rfl ?_
 intro b4
 refine A1 rfl (B3 rfl F0) ?_
 refine A4 (A3 (A2 ?_))
 refine A1 rfl (I5 2 rfl (A0 rfl) rfl G7 E1 rfl) ?_
 refine A1 rfl (D7 rfl Tryz.call199 rfl (Ah6 s (by omega)) (A8 (A0 rfl) C6)) ?_
 refine H3 rfl rfl rfl rfl Tryz.zeroValue43 rfl ?_
 intro b6
 refine E9 0 rfl rfl rfl (A0 rfl) (A0 rfl) (F9 _) rfl E1 rfl ?_
 refine A4 (A3 (A2 ?_))
 refine A1 rfl (I5 3 rfl (A0 rfl) rfl G7 E1 rfl) ?_
 refine A1 rfl (B2 1 rfl C0 rfl B9 (A0 rfl) rfl) ?_
 refine A1 rfl (B0 2 rfl (A0 rfl) rfl C1 rfl) ?_
 refine A1 rfl (D7 rfl Tryz.call128 rfl (AM3 s r.Txn (by omega)) (A8 (A0 rfl) (A8 (A0 rfl) C6))) ?_
 refine A5 rfl ?_
 refine A1 rfl (I1 rfl (A0 rfl) rfl) ?_
 refine A1 rfl (I1 rfl (A0 rfl) rfl) ?_
 refine H3 rfl rfl rfl rfl Tryz.zeroValue141 rfl ?_
 intro b7
 refine E9 0 rfl rfl rfl (A0 rfl) (A0 rfl) (F9 _) rfl D9 rfl ?_
 refine B4 rfl ?_
 refine A4 (A3 (A2 ?_))
 refine A1 rfl (I5 4 rfl (A0 rfl) rfl G7 E1 rfl) ?_
 refine A1 rfl (B2 1 rfl C0 rfl B9 (A0 rfl) rfl) ?_
 refine A1 rfl (B0 3 rfl (A0 rfl) rfl C1 rfl) ?_
 refine A1 rfl (D7 rfl Tryz.call200 rfl (An2 s r.Txn (by omega)) (A8 (A0 rfl) (A8 (A0 rfl) C6))) ?_
 refine A5 rfl ?_
 refine A1 rfl (I1 rfl (A0 rfl) rfl) ?_
 refine A1 rfl (I1 rfl (A0 rfl) rfl) ?_
 refine H3 rfl rfl rfl rfl Tryz.zeroValue144 rfl ?_
 intro b9
 refine E9 0 rfl rfl rfl (A0 rfl) (A0 rfl) (F9 _) rfl K6 rfl ?_
 refine B4 rfl ?_
 refine A4 (A3 (D0 (A3 ?_)))
 rw [hh]
 rw [hho, hto]
 refine A2 ?_
 refine A1 rfl (B2 0 rfl C0 rfl B9 (A0 rfl) rfl) ?_
 refine A1 rfl (B0 4 rfl (A0 rfl) rfl C1 rfl) ?_
 refine A1 rfl (R6 rfl (A0 rfl) B5) ?_
 refine B4 rfl ?_
 refine A4 ?_
 refine C3 (A0 rfl) ?_ ?_
 ·intro h29
  have k29 := S3 h29; try simp only [A9] at k29
  have hk : r.Kind = 4 := by simpa using h29
  have he : applyS s r = (⟨r.Time, s.Cells, s.Held, s.Told⟩, decide (s.Floor < r.Time)) := by (unfold applyS; rw [if_pos hk])
  rw [he]
  refine A3 (A2 ?_)
  refine A1 rfl (B2 2 rfl C0 rfl B9 (A0 rfl) rfl) ?_
  refine A1 rfl (B0 4 rfl (A0 rfl) rfl C1 rfl) ?_
  refine A1 rfl (B2 0 rfl D2 rfl B9 (A0 rfl) rfl) ?_
  refine S4 2 rfl rfl rfl (A0 rfl) (A0 rfl) (P2 _ _) rfl B9 rfl ?_
  refine A4 (A3 ?_)
  refine AWP.le (K1 [2, 3, 3] rfl) ?_
  refine a8 _ 7 (.pure 0 (.pure 1 (.pure 2 (.pure 3 (.pure 4 (.pure 5 (.e1 6 .nil))))))) (by kernel_rfl) (by kernel_rfl) rfl (j4 3) ?_
  refine I9 rfl rfl rfl (fun ext => I5 0 rfl (A0 rfl) rfl G7 E1 rfl) ?_
  refine I9 rfl rfl rfl (fun ext => B2 2 rfl C0 rfl B9 (A0 rfl) rfl) ?_
  refine I9 rfl rfl rfl (fun ext => B0 1 rfl (A0 rfl) rfl C1 rfl) ?_
  refine I9 rfl rfl rfl (fun ext => B2 0 rfl D2 rfl B9 (A0 rfl) rfl) ?_
  refine I9 rfl rfl rfl (fun ext => B0 2 rfl (A0 rfl) rfl C1 rfl) ?_
  refine I9 rfl rfl rfl (fun ext => N6 rfl (A0 rfl) (A0 rfl)) ?_
  refine X3 ?_
  refine eff_s0 rfl rfl rfl (AQ0 5 rfl rfl (A0 rfl) (A0 rfl) (F9 _) rfl E1 rfl) (fun a _ => (by first | exact G4 rfl | exact G4 (List.append_assoc _ _ _) | exact K5)) ?_
  intro _ _
  refine l6 ?_
  refine B4 rfl ?_
  refine A4 ?_
  refine C2 ?_
  exact T7 rfl (by decide) (F2 (Q2 (ys := _) 5 rfl rfl G7 E1 rfl) (F2 (B8 rfl (by rfl)) L5))
 intro h29
 have k29 := S2 h29; try simp only [A9] at k29
 have hk4 : r.Kind ≠ 4 := by simpa using h29
 refine A3 (A2 ?_)
 refine A5 rfl ?_
 refine B4 rfl ?_
 refine A4 ?_
 refine C3 (A0 rfl) ?_ ?_
 ·intro h42
  have he : applyS s r = (s, false) := by (unfold applyS; rw [if_neg hk4, if_pos h42])
  rw [he]
  refine A3 (A2 ?_)
  refine A1 rfl (I5 2 rfl (A0 rfl) rfl G7 E1 rfl) ?_
  refine E9 3 rfl rfl rfl (A0 rfl) (A0 rfl) (F9 _) rfl E1 rfl ?_
  refine A1 rfl (B3 rfl F0) ?_
  refine A4 ?_
  refine C2 ?_
  exact T7 rfl (by decide) (F2 (Q2 (ys := _) 3 rfl rfl G7 E1 rfl) (F2 (B8 rfl (by rfl)) L5))
 intro h42
 have hT : hasT s.Told r.Txn = false := h42
 have hnT : ¬ hasT s.Told r.Txn = true := by (rw [hT]; decide)
 refine A3 (A2 ?_)
 refine A1 rfl (B2 0 rfl C0 rfl B9 (A0 rfl) rfl) ?_
 refine A1 rfl (B0 4 rfl (A0 rfl) rfl C1 rfl) ?_
 refine A1 rfl (R6 rfl (A0 rfl) B5) ?_
 refine B4 rfl ?_
 refine A4 ?_
 refine C3 (A0 rfl) ?_ ?_
 ·intro h45
  have k45 := S3 h45; try simp only [A9] at k45
  have hk1 : r.Kind = 1 := by simpa using h45
  have he : applyS s r = (⟨r.Time, s.Cells, insH (hOf r) s.Held, s.Told⟩, (!hasH s.Held r.Txn && decide (s.Floor < r.Time)) && fits s r.Reads r.Writes) := by (unfold applyS; rw [if_neg hk4, if_neg hnT, if_pos hk1])
  rw [he]
  refine A3 ?_
  refine W4 _ [(0, false), (1, false), (2, false), (3, false), (4, false), (5, false), (6, false), (7, false), (8, false), (9, false), (10, false), (12, false), (13, false), (11, true), (14, true), (15, false)] (by kernel_rfl) (by kernel_rfl) rfl q8 ?_
  refine J2 rfl rfl rfl (fun ext => B2 2 rfl D2 rfl I6 (A0 rfl) rfl) ?_
  refine J2 rfl rfl rfl (fun ext => B0 2 rfl (A0 rfl) rfl L8 rfl) ?_
  refine J2 rfl rfl rfl (fun ext => B2 1 rfl C0 rfl B9 (A0 rfl) rfl) ?_
  refine J2 rfl rfl rfl (fun ext => B0 4 rfl (A0 rfl) rfl C1 rfl) ?_
  refine J2 rfl rfl rfl (fun ext => B2 2 rfl C0 rfl B9 (A0 rfl) rfl) ?_
  refine J2 rfl rfl rfl (fun ext => B0 4 rfl (A0 rfl) rfl C1 rfl) ?_
  refine J2 rfl rfl rfl (fun ext => B2 3 rfl C0 rfl B9 (A0 rfl) rfl) ?_
  refine J2 rfl rfl rfl (fun ext => B0 4 rfl (A0 rfl) rfl C1 rfl) ?_
  refine J2 rfl rfl rfl (fun ext => B2 4 rfl C0 rfl N3 (A0 rfl) rfl) ?_
  refine J2 rfl rfl rfl (fun ext => B0 4 rfl (A0 rfl) rfl P7 rfl) ?_
  refine J2 rfl rfl rfl (fun ext => D7 rfl Tryz.call202 rfl (An5 _ (by omega)) (A8 (A0 rfl) C6)) ?_
  refine J2 rfl rfl rfl (fun ext => B2 5 rfl C0 rfl K4 (A0 rfl) rfl) ?_
  refine J2 rfl rfl rfl (fun ext => B0 4 rfl (A0 rfl) rfl L2 rfl) ?_
  refine U3 rfl rfl rfl (X2 rfl F7 I2) (fun a _ => (by first | exact G4 rfl | exact G4 (List.append_assoc _ _ _) | exact K5)) ?_
  intro v60 _
  refine U3 rfl rfl rfl (BC8 [6] (fun _ => rfl) (fun _ => Q4 (G6 (i := 0) rfl) L7) (fun _ => AL4) (N2 (by' := 40) 6 rfl F7 Tryz.type101 rfl rfl rfl rfl rfl rfl (A0 rfl) (A0 rfl) rfl (by simp only [L9, A9]; omega))) (fun a _ => (by first | exact G4 rfl | exact G4 (List.append_assoc _ _ _) | exact K5)) ?_
  intro v63_1 _
  refine J2 rfl rfl rfl (fun ext => O6 (places := #[(0, 1), (1, 1), (2, 1), (3, 1), (4, 1)]) rfl E8 Tryz.zeroValue141 (fun w => by kernel_rfl) rfl (F4 (A0 rfl) (P2 _ _) (F4 (A0 rfl) (P2 _ _) (F4 (A0 rfl) (P2 _ _) (F4 (A0 rfl) (U1 _ _) (F4 (A0 rfl) (U1 _ _) J5))))) rfl) ?_
  refine AD6 ?_
  refine A1 rfl (D7 rfl Tryz.call201 rfl (An4 s.Held (hOf r) hgh (by omega)) (A8 (A0 rfl) (A8 (A0 rfl) C6))) ?_
  refine A1 rfl (B2 2 rfl D2 rfl I6 (A0 rfl) rfl) ?_
  refine S4 2 rfl rfl rfl (A0 rfl) (A0 rfl) (U1 _ _) rfl I6 rfl ?_
  refine A4 (A3 (A2 ?_))
  refine A1 rfl (B2 2 rfl C0 rfl B9 (A0 rfl) rfl) ?_
  refine A1 rfl (B0 4 rfl (A0 rfl) rfl C1 rfl) ?_
  refine A1 rfl (B2 0 rfl D2 rfl B9 (A0 rfl) rfl) ?_
  refine S4 2 rfl rfl rfl (A0 rfl) (A0 rfl) (P2 _ _) rfl B9 rfl ?_
  refine A4 (A3 ?_)
  refine AWP.le (K1 [2, 3, 3] rfl) ?_
  refine a8 _ 19 (.pure 0 (.pure 1 (.pure 2 (.pure 3 (.pure 4 (.pure 5 (.pure 6 (.pure 7 (.pure 8 (.pure 9 (.pure 10 (.pure 11 (.pure 12 (.pure 13 (.pure 14 (.pure 15 (.pure 16 (.pure 17 (.e1 18 .nil))))))))))))))))))) (by kernel_rfl) (by kernel_rfl) rfl (j4 3) ?_
  refine I9 rfl rfl rfl (fun ext => I5 0 rfl (A0 rfl) rfl G7 E1 rfl) ?_
  refine I9 rfl rfl rfl (fun ext => B7 rfl (A0 rfl)) ?_
  refine I9 rfl rfl rfl (fun ext => K3 rfl (A0 rfl)) ?_
  refine I9 rfl rfl rfl (fun ext => B7 rfl (A0 rfl)) ?_
  refine c8 rfl rfl (H0 rfl rfl rfl) (fun hc ext => B2 2 rfl C0 rfl B9 (A0 rfl) rfl) ?_
  refine c8 rfl rfl (H0 rfl rfl rfl) (fun hc ext => B0 1 rfl (A6 rfl hc) rfl C1 rfl) ?_
  refine c8 rfl rfl (H0 rfl rfl rfl) (fun hc ext => B2 0 rfl D2 rfl B9 (A0 rfl) rfl) ?_
  refine c8 rfl rfl (H0 rfl rfl rfl) (fun hc ext => B0 2 rfl (A6 rfl hc) rfl C1 rfl) ?_
  refine c8 rfl rfl (H0 rfl rfl rfl) (fun hc ext => N6 rfl (A6 rfl hc) (A6 rfl hc)) ?_
  refine I9 rfl rfl rfl (fun ext => G8 rfl (A0 rfl) (F1 rfl)) ?_
  refine I9 rfl rfl rfl (fun ext => B7 rfl (A0 rfl)) ?_
  refine c8 rfl rfl (H0 rfl rfl rfl) (fun hc ext => I5 2 rfl (A0 rfl) rfl G7 E1 rfl) ?_
  refine c8 rfl rfl (H0 rfl rfl rfl) (fun hc ext => B2 4 rfl C0 rfl N3 (A0 rfl) rfl) ?_
  refine c8 rfl rfl (H0 rfl rfl rfl) (fun hc ext => B0 1 rfl (A6 rfl hc) rfl P7 rfl) ?_
  refine c8 rfl rfl (H0 rfl rfl rfl) (fun hc ext => B2 5 rfl C0 rfl K4 (A0 rfl) rfl) ?_
  refine c8 rfl rfl (H0 rfl rfl rfl) (fun hc ext => B0 1 rfl (A6 rfl hc) rfl L2 rfl) ?_
  refine c8 rfl rfl (H0 rfl rfl rfl) (fun hc ext => D7 rfl Tryz.call203 rfl (Az2 s r.Reads r.Writes (by omega) (by omega)) (A8 (A6 rfl hc) (A8 (A6 rfl hc) (A8 (A6 rfl hc) C6)))) ?_
  refine I9 rfl rfl rfl (fun ext => G8 rfl (A0 rfl) (F1 rfl)) ?_
  refine X3 ?_
  refine eff_s0 rfl rfl rfl (AQ0 5 rfl rfl (A0 rfl) (A0 rfl) (F9 _) rfl E1 rfl) (fun a _ => (by first | exact G4 rfl | exact G4 (List.append_assoc _ _ _) | exact K5)) ?_
  intro _ _
  refine l6 ?_
  refine B4 rfl ?_
  refine A4 ?_
  refine C2 ?_
  exact T7 rfl (by decide) (F2 (Q2 (ys := _) 5 rfl rfl G7 E1 rfl) (F2 (B8 rfl (by rfl)) L5))
 intro h45
 have k45 := S2 h45; try simp only [A9] at k45
 have hk1 : r.Kind ≠ 1 := by simpa using h45
 have hap : applyS s r = (if r.Yes = true then (match findH s.Held r.Txn with | none => (s, false) | some h => if r.Time < h.Time then (s, false) else if (putP s.Cells h.Writes r.Time).2 = true then (doneS s r (if s.Floor < r.Time then r.Time else s.Floor) (putP s.Cells h.Writes r.Time).1, true) else (s, false)) else (doneS s r s.Floor s.Cells, true)) := by (unfold applyS; rw [if_neg hk4, if_neg hnT, if_neg hk1]; rfl)
 refine A3 (A2 ?_)
 refine A1 rfl (B2 6 rfl C0 rfl K2 (A0 rfl) rfl) ?_
 refine A1 rfl (B0 4 rfl (A0 rfl) rfl K7 rfl) ?_
 refine B4 rfl ?_
 refine A4 ?_
 refine C3 (A0 rfl) ?_ ?_
 ·intro h88
  refine A3 (A3 (A2 ?_))
  refine A5 rfl ?_
  refine A1 rfl (K3 rfl (A0 rfl)) ?_
  refine A5 rfl ?_
  refine H2 rfl (fun hc => B2 1 rfl E8 rfl B9 (A0 rfl) rfl) ?_
  refine H2 rfl (fun hc => B0 1 rfl (A6 rfl hc) rfl C1 rfl) ?_
  refine H2 rfl (fun hc => B2 2 rfl C0 rfl B9 (A0 rfl) rfl) ?_
  refine H2 rfl (fun hc => B0 4 rfl (A6 rfl hc) rfl C1 rfl) ?_
  refine H2 rfl (fun hc => N6 rfl (A6 rfl hc) (A6 rfl hc)) ?_
  refine A1 rfl (P9 rfl (A0 rfl) (F1 rfl)) ?_
  refine A4 ?_
  refine C3 (A0 rfl) ?_ ?_
  ·intro h99
   have he : applyS s r = (s, false) := by (rw [hap, if_pos h88]; cases e : hasH s.Held r.Txn with | false => (rw [hf0 e]) | true => (rw [hf1 e]; dsimp only; rw [if_pos (by rw [e] at h99; simpa using h99)]))
   rw [he]
   refine A3 (A2 ?_)
   refine A1 rfl (I5 2 rfl (A0 rfl) rfl G7 E1 rfl) ?_
   refine E9 3 rfl rfl rfl (A0 rfl) (A0 rfl) (F9 _) rfl E1 rfl ?_
   refine A1 rfl (B3 rfl F0) ?_
   refine A4 ?_
   refine C2 ?_
   exact T7 rfl (by decide) (F2 (Q2 (ys := _) 3 rfl rfl G7 E1 rfl) (F2 (B8 rfl (by rfl)) L5))
  intro h99
  simp only [Bool.or_eq_false_iff, Bool.not_eq_false', decide_eq_false_iff_not] at h99
  obtain ⟨hhas, hnlt⟩ := h99
  obtain ⟨hz1, hz2⟩ := hhs hhas
  have hz3 : h.size = sizeL (fun x => x.length) h.Reads + sizeL TWrite.size h.Writes := rfl
  refine C8 (A3 (A2 ?_))
  refine A1 rfl (B2 1 rfl D2 rfl M4 (A0 rfl) rfl) ?_
  refine A1 rfl (B0 5 rfl (A0 rfl) rfl O9 rfl) ?_
  refine A1 rfl (B2 4 rfl E8 rfl K4 (A0 rfl) rfl) ?_
  refine A1 rfl (B0 1 rfl (A0 rfl) rfl L2 rfl) ?_
  refine A1 rfl (B2 2 rfl C0 rfl B9 (A0 rfl) rfl) ?_
  refine A1 rfl (B0 4 rfl (A0 rfl) rfl C1 rfl) ?_
  refine A1 rfl (D7 rfl Tryz.call204 rfl (As2 s.Cells h.Writes r.Time hgc (by omega) (by omega) (by omega)) (A8 (A0 rfl) (A8 (A0 rfl) (A8 (A0 rfl) C6)))) ?_
  refine A5 rfl ?_
  refine A1 rfl (I1 rfl (A0 rfl) rfl) ?_
  refine A1 rfl (I1 rfl (A0 rfl) rfl) ?_
  refine B4 rfl ?_
  refine B4 rfl ?_
  refine A4 (A3 (A3 (A2 ?_)))
  refine A5 rfl ?_
  refine A1 rfl (K3 rfl (A0 rfl)) ?_
  refine A4 ?_
  refine C3 (A0 rfl) ?_ ?_
  ·intro h112
   have he : applyS s r = (s, false) := by (rw [hap, if_pos h88, hf1 hhas]; dsimp only; rw [if_neg (by omega), if_neg (by simpa using h112)])
   rw [he]
   refine A3 (A2 ?_)
   refine A1 rfl (I5 2 rfl (A0 rfl) rfl G7 E1 rfl) ?_
   refine E9 3 rfl rfl rfl (A0 rfl) (A0 rfl) (F9 _) rfl E1 rfl ?_
   refine A1 rfl (B3 rfl F0) ?_
   refine A4 ?_
   refine C2 ?_
   exact T7 rfl (by decide) (F2 (Q2 (ys := _) 3 rfl rfl G7 E1 rfl) (F2 (B8 rfl (by rfl)) L5))
  intro h112
  have he : applyS s r = (doneS s r (if s.Floor < r.Time then r.Time else s.Floor) (putP s.Cells h.Writes r.Time).1, true) := by (rw [hap, if_pos h88, hf1 hhas]; dsimp only; rw [if_neg (by omega), if_pos (by simpa using h112)])
  rw [he]
  unfold doneS
  refine C8 (A3 (A2 ?_))
  refine A5 rfl ?_
  refine A1 rfl (B2 1 rfl D2 rfl M4 (A0 rfl) rfl) ?_
  refine S4 2 rfl rfl rfl (A0 rfl) (A0 rfl) (U1 _ _) rfl M4 rfl ?_
  refine A4 (A2 ?_)
  refine A1 rfl (B2 0 rfl D2 rfl B9 (A0 rfl) rfl) ?_
  refine A1 rfl (B0 5 rfl (A0 rfl) rfl C1 rfl) ?_
  refine A1 rfl (B2 2 rfl C0 rfl B9 (A0 rfl) rfl) ?_
  refine A1 rfl (B0 4 rfl (A0 rfl) rfl C1 rfl) ?_
  refine A1 rfl (D7 rfl Tryz.call62 rfl (AM6 _ _) (A8 (A0 rfl) (A8 (A0 rfl) C6))) ?_
  refine A1 rfl (B2 0 rfl D2 rfl B9 (A0 rfl) rfl) ?_
  refine S4 2 rfl rfl rfl (A0 rfl) (A0 rfl) (P2 _ _) rfl B9 rfl ?_
  refine A4 (A3 (A2 ?_))
  refine A1 rfl (B2 2 rfl D2 rfl I6 (A0 rfl) rfl) ?_
  refine A1 rfl (B0 2 rfl (A0 rfl) rfl L8 rfl) ?_
  refine A1 rfl (B2 1 rfl C0 rfl B9 (A0 rfl) rfl) ?_
  refine A1 rfl (B0 4 rfl (A0 rfl) rfl C1 rfl) ?_
  refine A1 rfl (D7 rfl Tryz.call205 rfl (Ae7 s.Held r.Txn (by omega)) (A8 (A0 rfl) (A8 (A0 rfl) C6))) ?_
  refine A1 rfl (B2 2 rfl D2 rfl I6 (A0 rfl) rfl) ?_
  refine S4 2 rfl rfl rfl (A0 rfl) (A0 rfl) (U1 _ _) rfl I6 rfl ?_
  refine A4 (A3 (A2 ?_))
  refine A1 rfl (B2 3 rfl D2 rfl Q8 (A0 rfl) rfl) ?_
  refine A1 rfl (B0 2 rfl (A0 rfl) rfl T6 rfl) ?_
  refine A1 rfl (B2 1 rfl C0 rfl B9 (A0 rfl) rfl) ?_
  refine A1 rfl (B0 4 rfl (A0 rfl) rfl C1 rfl) ?_
  refine A1 rfl (B2 6 rfl C0 rfl K2 (A0 rfl) rfl) ?_
  refine A1 rfl (B0 4 rfl (A0 rfl) rfl K7 rfl) ?_
  refine A1 rfl (B2 2 rfl C0 rfl B9 (A0 rfl) rfl) ?_
  refine A1 rfl (B0 4 rfl (A0 rfl) rfl C1 rfl) ?_
  refine A1 rfl (O6 (places := #[(0, 1), (1, 1), (2, 1)]) rfl K0 Tryz.zeroValue144 (fun w => by kernel_rfl) rfl (F4 (A0 rfl) (P2 _ _) (F4 (A0 rfl) (i8 _) (F4 (A0 rfl) (P2 _ _) J5))) rfl) ?_
  refine A1 rfl (D7 rfl Tryz.call206 rfl (AM5 s.Told ⟨r.Txn, r.Yes, r.Time⟩ hgt (by omega)) (A8 (A0 rfl) (A8 (A0 rfl) C6))) ?_
  refine A1 rfl (B2 3 rfl D2 rfl Q8 (A0 rfl) rfl) ?_
  refine S4 2 rfl rfl rfl (A0 rfl) (A0 rfl) (U1 _ _) rfl Q8 rfl ?_
  refine A4 (A3 (A2 ?_))
  refine A1 rfl (I5 2 rfl (A0 rfl) rfl G7 E1 rfl) ?_
  refine E9 3 rfl rfl rfl (A0 rfl) (A0 rfl) (F9 _) rfl E1 rfl ?_
  refine A1 rfl (B3 rfl F0) ?_
  refine A4 ?_
  refine C2 ?_
  exact T7 rfl (by decide) (F2 (Q2 (ys := _) 3 rfl rfl G7 E1 rfl) (F2 (B8 rfl (by rfl)) L5))
 intro h88
 have he : applyS s r = (doneS s r s.Floor s.Cells, true) := by (rw [hap, if_neg (by rw [h88]; decide)])
 rw [he]
 unfold doneS
 refine C8 (A3 (A2 ?_))
 refine A1 rfl (B2 2 rfl D2 rfl I6 (A0 rfl) rfl) ?_
 refine A1 rfl (B0 2 rfl (A0 rfl) rfl L8 rfl) ?_
 refine A1 rfl (B2 1 rfl C0 rfl B9 (A0 rfl) rfl) ?_
 refine A1 rfl (B0 4 rfl (A0 rfl) rfl C1 rfl) ?_
 refine A1 rfl (D7 rfl Tryz.call205 rfl (Ae7 s.Held r.Txn (by omega)) (A8 (A0 rfl) (A8 (A0 rfl) C6))) ?_
 refine A1 rfl (B2 2 rfl D2 rfl I6 (A0 rfl) rfl) ?_
 refine S4 2 rfl rfl rfl (A0 rfl) (A0 rfl) (U1 _ _) rfl I6 rfl ?_
 refine A4 (A3 (A2 ?_))
 refine A1 rfl (B2 3 rfl D2 rfl Q8 (A0 rfl) rfl) ?_
 refine A1 rfl (B0 2 rfl (A0 rfl) rfl T6 rfl) ?_
 refine A1 rfl (B2 1 rfl C0 rfl B9 (A0 rfl) rfl) ?_
 refine A1 rfl (B0 4 rfl (A0 rfl) rfl C1 rfl) ?_
 refine A1 rfl (B2 6 rfl C0 rfl K2 (A0 rfl) rfl) ?_
 refine A1 rfl (B0 4 rfl (A0 rfl) rfl K7 rfl) ?_
 refine A1 rfl (B2 2 rfl C0 rfl B9 (A0 rfl) rfl) ?_
 refine A1 rfl (B0 4 rfl (A0 rfl) rfl C1 rfl) ?_
 refine A1 rfl (O6 (places := #[(0, 1), (1, 1), (2, 1)]) rfl K0 Tryz.zeroValue144 (fun w => by kernel_rfl) rfl (F4 (A0 rfl) (P2 _ _) (F4 (A0 rfl) (i8 _) (F4 (A0 rfl) (P2 _ _) J5))) rfl) ?_
 refine A1 rfl (D7 rfl Tryz.call206 rfl (AM5 s.Told ⟨r.Txn, r.Yes, r.Time⟩ hgt (by omega)) (A8 (A0 rfl) (A8 (A0 rfl) C6))) ?_
 refine A1 rfl (B2 3 rfl D2 rfl Q8 (A0 rfl) rfl) ?_
 refine S4 2 rfl rfl rfl (A0 rfl) (A0 rfl) (U1 _ _) rfl Q8 rfl ?_
 refine A4 (A3 (A2 ?_))
 refine A1 rfl (I5 2 rfl (A0 rfl) rfl G7 E1 rfl) ?_
 refine E9 3 rfl rfl rfl (A0 rfl) (A0 rfl) (F9 _) rfl E1 rfl ?_
 refine A1 rfl (B3 rfl F0) ?_
 refine A4 ?_
 refine C2 ?_
 exact T7 rfl (by decide) (F2 (Q2 (ys := _) 3 rfl rfl G7 E1 rfl) (F2 (B8 rfl (by rfl)) L5))
end Go.Proofs.YtkegepoihkhihaaGreat

set_option maxHeartbeats 1000000
namespace Go.M
open Go.AV
end Go.M
namespace Go.Proofs.YtkegepoihkhihaaGreat
open Go Go.AV Go.M
attribute [local irreducible] OpW OpA OpS AWP FSpec ESpec GSpec OpE RetOk RetOkG RvDen Le Ev GuardIs SrcIs Int.tmod Int.tdiv IntKind.wrap
theorem AT6 (s : TState) (hs : s.size ≤ 1048576) : FSpec Tryz.prog 45 [AV.agg s.cs] (AV.bool (goodState s)) := by
 refine D8 Tryz.func45 rfl Tryz.ntmps45 rfl ?_
 refine A3 (A2 ?_)
 refine L6 rfl rfl rfl rfl (A0 rfl) ?_
 intro b1
 refine A1 rfl (B3 rfl F0) ?_
 refine A4 (A3 (A2 ?_))
 refine A1 rfl (I5 0 rfl (A0 rfl) rfl G7 E1 rfl) ?_
 refine A1 rfl (D7 rfl Tryz.call80 rfl (AB3 _ (by first | assumption | omega)) (A8 (A0 rfl) C6)) ?_
 refine B4 rfl ?_
 refine A4 ?_
 refine C2 ?_
 exact G1 rfl (B8 rfl (by first | rfl | (refine congrArg AV.bool ?_; simp_all; done)))
theorem Ah7 (s : TState) (hg : goodState s = true) : FSpec Tryz.prog 81 [AV.agg s.cs] (AV.int (settled s)) := by
 have g := R4.1 hg
 have hhl := g.hlen
 refine D8 Tryz.func81 rfl Tryz.ntmps81 rfl ?_
 refine A3 (A2 ?_)
 refine L6 rfl rfl rfl rfl (A0 rfl) ?_
 intro b1
 refine A1 rfl (B3 rfl B5) ?_
 refine A4 (A3 (A2 ?_))
 refine A1 rfl (B2 0 rfl D2 rfl B9 (A0 rfl) rfl) ?_
 refine A1 rfl (B0 0 rfl (A0 rfl) rfl C1 rfl) ?_
 refine B4 rfl ?_
 refine A4 (A3 (A3 (A2 ?_)))
 refine A1 rfl (B2 2 rfl D2 rfl I6 (A0 rfl) rfl) ?_
 refine A1 rfl (B0 0 rfl (A0 rfl) rfl L8 rfl) ?_
 refine A1 rfl (G5 rfl E4 (A0 rfl)) ?_
 refine A1 rfl (B7 rfl B5) ?_
 refine A4 (D0 ?_)
 refine H4 [(2, _), (9, _), (10, _)] _ (fun (i : Nat) => i ≤ s.Held.length) (fun (i : Nat) => []) (fun (i : Nat) => [(3, AV.int ((s.Held.take i).foldl (fun o h => min o (h.Time - 1)) s.Floor)), (11, AV.int i)]) (fun (i : Nat) => s.Held.length - i) (0) ?_ (H8 ⟨rfl, rfl, rfl, rfl, rfl, trivial⟩) ?_
 ·exact Nat.zero_le _
 intro i hinv
 refine A3 (A2 ?_)
 refine A1 rfl (I4 rfl (A0 rfl) (A0 rfl)) ?_
 refine A4 (A3 ?_)
 refine C3 (A0 rfl) ?_ ?_
 ·intro h12
  have k12 := of_decide_eq_true h12; try simp only [A9] at k12
  have hlt : i < s.Held.length := by omega
  obtain ⟨h, hx⟩ := get_some hlt
  obtain ⟨q1, q2, q3⟩ := AH4 g (G6 hx)
  refine C8 (A3 (D0 (A3 (A2 ?_))))
  refine A1 rfl (H5 rfl E4 D9 (A0 rfl) (A0 rfl) hx (by first | omega | (simp only [D1, A7, szR] at *; omega))) ?_
  refine A1 rfl (J0 rfl (A0 rfl) J9 D9) ?_
  refine H3 rfl rfl rfl rfl Tryz.zeroValue141 rfl ?_
  intro b5
  refine E9 0 rfl rfl rfl (A0 rfl) (A0 rfl) (F9 _) rfl D9 rfl ?_
  refine A4 (A2 ?_)
  refine A5 rfl ?_
  refine A1 rfl (B2 1 rfl E8 rfl B9 (A0 rfl) rfl) ?_
  refine A1 rfl (B0 0 rfl (A0 rfl) rfl C1 rfl) ?_
  refine A1 rfl (Q5 rfl (A0 rfl) B5 (by first | omega | (simp only [D1, A7, szR] at *; omega))) ?_
  refine A1 rfl (D7 rfl Tryz.call38 rfl (AM4 _ _) (A8 (A0 rfl) (A8 (A0 rfl) C6))) ?_
  refine B4 rfl ?_
  refine A4 (A2 ?_)
  refine A1 rfl (F6 rfl (A0 rfl) B5 (by first | omega | (simp only [D1, A7, szR] at *; omega))) ?_
  refine A5 rfl ?_
  refine A4 ?_
  refine J3 i (i + 1) ?_ ?_ (S0 1 ⟨congrArg (fun z => some (AV.int z)) (by rw [AM1 hx]; unfold leastI; split <;> split <;> omega), rfl, rfl, rfl, rfl, trivial⟩)
  ·omega
  omega
 intro h12
 have k12 := of_decide_eq_false h12; try simp only [A9] at k12
 have hge : s.Held.length ≤ i := by omega
 rw [List.take_of_length_le hge]
 refine G0 ?_
 refine A3 (A2 ?_)
 refine A5 rfl ?_
 refine B4 rfl ?_
 refine A4 ?_
 refine C2 ?_
 exact G1 rfl (B8 rfl (by rfl))
theorem AW9 (s : TState) (hs : s.size ≤ 1048576) : FSpec Tryz.prog 37 [AV.agg s.cs] (AV.tup [AV.int (settledR s).1, AV.bool (settledR s).2]) := by
 refine D8 Tryz.func37 rfl Tryz.ntmps37 rfl ?_
 refine A3 (A2 ?_)
 refine L6 rfl rfl rfl rfl (A0 rfl) ?_
 intro b1
 refine A1 rfl (B3 rfl B5) ?_
 refine A1 rfl (B3 rfl F0) ?_
 refine A4 (A3 (A3 (A2 ?_)))
 refine A1 rfl (I5 0 rfl (A0 rfl) rfl G7 E1 rfl) ?_
 refine A1 rfl (D7 rfl Tryz.call80 rfl (AB3 _ (by first | assumption | omega)) (A8 (A0 rfl) C6)) ?_
 refine A1 rfl (K3 rfl (A0 rfl)) ?_
 refine A4 ?_
 refine C3 (A0 rfl) ?_ ?_
 ·intro h6
  have he : settledR s = (0, false) := if_neg (by simpa using h6)
  rw [he]
  refine A3 (A2 ?_)
  refine A1 rfl (B3 rfl B5) ?_
  refine A1 rfl (B3 rfl F0) ?_
  refine A4 ?_
  refine C2 ?_
  exact T7 rfl (by decide) (F2 (B8 rfl (by rfl)) (F2 (B8 rfl (by rfl)) L5))
 intro h6
 have hg : goodState s = true := by simpa using h6
 have he : settledR s = (settled s, true) := if_pos hg
 rw [he]
 refine C8 (A3 (A2 ?_))
 refine A1 rfl (I5 0 rfl (A0 rfl) rfl G7 E1 rfl) ?_
 refine A1 rfl (D7 rfl Tryz.call81 rfl (Ah7 _ (by assumption)) (A8 (A0 rfl) C6)) ?_
 refine B4 rfl ?_
 refine A1 rfl (B3 rfl F0) ?_
 refine A4 ?_
 refine C2 ?_
 exact T7 rfl (by decide) (F2 (B8 rfl (by rfl)) (F2 (B8 rfl (by rfl)) L5))
theorem of_own (l : List TRec) (hl : l.length ≤ 60) (hr : ∀ r ∈ l, r.size ≤ 1100) : GSpec Tryz.prog 107 [AV.list 7 (l.map TRec.cs)] [] (fun _ : Value => True) (fun x => [.arr x 4 1 ((didFrom zState l).map fun b => [AV.bool b])]) (fun x => AV.tup [AV.agg (stFrom zState l).cs, AV.is x]) := by
 have hgs : ∀ i, SO (stFrom zState (l.take i)) := fun i => Av2 so_zero
 have hsz : ∀ i, (stFrom zState (l.take i)).size ≤ 300000 := fun i => by
  have h1 := Am8 (stFrom zState (l.take i))
  have h2 := AT5 (m := 1100) (s := zState) (l := l.take i) fun r hr2 => hr r (List.mem_of_mem_take hr2)
  have h3 : phi zState = 0 := rfl
  have h4 : (l.take i).length ≤ 60 := by rw [E6]; omega
  have h5 : (l.take i).length * (3 * (1 + 1100) + 1) ≤ 60 * 3304 := Nat.mul_le_mul h4 (by decide)
  omega
 refine N7 Tryz.func107 rfl Tryz.ntmps107 rfl ?_
 refine A3 (A2 ?_)
 refine H3 rfl rfl rfl rfl Tryz.zeroValue43 rfl ?_
 intro b2
 refine A1 rfl (B3 rfl P8) ?_
 refine A4 (A3 (A2 ?_))
 refine H3 rfl rfl rfl rfl Tryz.zeroValue43 rfl ?_
 intro b4
 refine A4 (A3 (A2 ?_))
 refine AA4 4 1 rfl rfl rfl rfl P8 ?_
 intro v5
 refine A4 (A3 (A3 ?_))
 refine AWP.le (AH3 1 1 2 rfl rfl T0) ?_
 refine AWP.le (AH3 1 2 5 rfl rfl T0) ?_
 refine AWP.le (AH3 1 3 3 rfl rfl T0) ?_
 refine A2 ?_
 refine A5 rfl ?_
 refine A1 rfl (G5 rfl N4 (A0 rfl)) ?_
 refine A1 rfl (B7 rfl B5) ?_
 refine A4 (D0 ?_)
 refine AWP.le (K1 [1, 0] rfl) ?_
 refine T5 [(2, _), (3, _), (4, _), (10, _), (11, _)] _ (fun (i : Nat) (v : Value) (bs : List Bool) => i ≤ l.length ∧ bs = didFrom zState (l.take i) ∧ bs.length ≤ i) (fun (i : Nat) (v : Value) (bs : List Bool) => [.box b4 43 (stFrom zState (l.take i)).cs, .arr v 4 1 (bs.map fun b => [AV.bool b])]) (fun (i : Nat) (v : Value) (bs : List Bool) => [(5, AV.is v), (12, AV.int i)]) (fun (i : Nat) (v : Value) (bs : List Bool) => l.length - i) (0) (v5) ([]) ?_ (Q3 (by rfl) ⟨rfl, rfl, rfl, rfl, rfl, rfl, rfl, trivial⟩) ?_
 ·exact ⟨Nat.zero_le _, rfl, Nat.le_refl _⟩
 intro i v bs hinv
 refine A3 (A2 ?_)
 refine A1 rfl (I4 rfl (A0 rfl) (A0 rfl)) ?_
 refine A4 (A3 ?_)
 refine C3 (A0 rfl) ?_ ?_
 ·intro h13
  have k13 := of_decide_eq_true h13; try simp only [A9] at k13
  have hlt : i < l.length := by omega
  obtain ⟨r, hx⟩ := get_some hlt
  have hgr := hr r (G6 hx)
  have hgi := hgs i
  have hsi := hsz i
  refine C8 (A3 (D0 (A3 (A2 ?_))))
  refine A1 rfl (H5 rfl N4 N5 (A0 rfl) (A0 rfl) hx (by first | omega | (simp only [D1, A7, szR] at *; omega))) ?_
  refine A1 rfl (J0 rfl (A0 rfl) Y7 N5) ?_
  refine H3 rfl rfl rfl rfl Tryz.zeroValue104 rfl ?_
  intro b7
  refine E9 0 rfl rfl rfl (A0 rfl) (A0 rfl) (F9 _) rfl N5 rfl ?_
  refine A4 (A3 (A2 ?_))
  refine A1 rfl (I5 1 rfl (A0 rfl) rfl G7 E1 rfl) ?_
  refine A1 rfl (I5 0 rfl (A0 rfl) rfl Y7 N5 rfl) ?_
  refine A1 rfl (D7 rfl Tryz.call164 rfl (As3 (stFrom zState (l.take i)) r hgi (by omega) (by omega)) (A8 (A0 rfl) (A8 (A0 rfl) C6))) ?_
  refine A5 rfl ?_
  refine A1 rfl (I1 rfl (A0 rfl) rfl) ?_
  refine A1 rfl (I1 rfl (A0 rfl) rfl) ?_
  refine H3 rfl rfl rfl rfl Tryz.zeroValue43 rfl ?_
  intro b8
  refine E9 0 rfl rfl rfl (A0 rfl) (A0 rfl) (F9 _) rfl E1 rfl ?_
  refine B4 rfl ?_
  refine A4 (A3 (A3 (A2 ?_)))
  refine A5 rfl ?_
  refine A4 ?_
  refine C3 (A0 rfl) ?_ ?_
  ·intro h22
   have hstep : (applyS (stFrom zState (l.take i)) r).1 = stepS (stFrom zState (l.take i)) r := by (unfold stepS; rw [if_pos h22])
   refine A2 ?_
   refine A1 rfl (I5 0 rfl (A0 rfl) rfl G7 E1 rfl) ?_
   refine E9 2 rfl rfl rfl (A0 rfl) (A0 rfl) (F9 _) rfl E1 rfl ?_
   refine A4 (A2 ?_)
   refine A5 rfl ?_
   refine A5 rfl ?_
   refine A1 rfl (M0 rfl Tryz.underlying105 K2 Tryz.zeroValue4 rfl rfl rfl rfl (F4 (A0 rfl) (i8 _) J5) rfl rfl) ?_
   refine M6 (by' := 1) 3 rfl rfl rfl rfl Tryz.underlying105 Tryz.type4 rfl rfl rfl rfl rfl rfl (A0 rfl) (A0 rfl) rfl (by first | omega | (simp only [D1, A7, szR] at *; omega)) ?_
   intro v27_1
   refine B4 rfl ?_
   refine A4 (A2 ?_)
   refine A1 rfl (F6 rfl (A0 rfl) B5 (by first | omega | (simp only [D1, A7, szR] at *; omega))) ?_
   refine A5 rfl ?_
   refine A4 ?_
   refine S9 i v bs (i + 1) (v27_1) (bs ++ [(applyS (stFrom zState (l.take i)) r).2]) ?_ ?_ (Le.trans (K1 [0, 0, 0, 0] rfl) (M3 2 (by first | (rw [List.map_append, AR1 hx, ← hstep]; rfl) | rfl) ⟨rfl, rfl, rfl, rfl, rfl, rfl, rfl, trivial⟩))
   ·exact ⟨by omega, by rw [AM0 hx, hinv.2.1], by rw [J4]; simp; omega⟩
   omega
  intro h22
  have hstep : stFrom zState (l.take i) = stepS (stFrom zState (l.take i)) r := by (conv => rhs; unfold stepS; rw [if_neg (by rw [h22]; decide)])
  refine C8 (A2 ?_)
  refine A5 rfl ?_
  refine A5 rfl ?_
  refine A1 rfl (M0 rfl Tryz.underlying105 K2 Tryz.zeroValue4 rfl rfl rfl rfl (F4 (A0 rfl) (i8 _) J5) rfl rfl) ?_
  refine M6 (by' := 1) 3 rfl rfl rfl rfl Tryz.underlying105 Tryz.type4 rfl rfl rfl rfl rfl rfl (A0 rfl) (A0 rfl) rfl (by first | omega | (simp only [D1, A7, szR] at *; omega)) ?_
  intro v27_2
  refine B4 rfl ?_
  refine A4 (A2 ?_)
  refine A1 rfl (F6 rfl (A0 rfl) B5 (by first | omega | (simp only [D1, A7, szR] at *; omega))) ?_
  refine A5 rfl ?_
  refine A4 ?_
  refine S9 i v bs (i + 1) (v27_2) (bs ++ [(applyS (stFrom zState (l.take i)) r).2]) ?_ ?_ (Le.trans (K1 [0, 0, 0, 0] rfl) (M3 2 (by first | (rw [List.map_append, AR1 hx, ← hstep]; rfl) | rfl) ⟨rfl, rfl, rfl, rfl, rfl, rfl, rfl, trivial⟩))
  ·exact ⟨by omega, by rw [AM0 hx, hinv.2.1], by rw [J4]; simp; omega⟩
  omega
 intro h13
 have k13 := of_decide_eq_false h13; try simp only [A9] at k13
 have hge : i = l.length := by omega
 have hbs := hinv.2.1
 rw [hge, List.take_length] at hbs
 rw [hge, List.take_length, ← hbs]
 refine G0 ?_
 refine A3 (A2 ?_)
 refine A1 rfl (I5 0 rfl (A0 rfl) rfl G7 E1 rfl) ?_
 refine A5 rfl ?_
 refine E9 2 rfl rfl rfl (A0 rfl) (A0 rfl) (F9 _) rfl E1 rfl ?_
 refine B4 rfl ?_
 refine A4 ?_
 refine C2 ?_
 exact T1 [1] v (trivial) rfl (by rfl) (Y3 rfl (by decide) (F2 (Q2 (ys := _) 2 rfl rfl G7 E1 rfl) (F2 (B8 rfl (by rfl)) L5)))
theorem An6 (l : List TRec) (hl : l.length ≤ 1048576) (hr : ∀ r ∈ l, r.size ≤ 1100) : GSpec Tryz.prog 67 [AV.list 7 (l.map TRec.cs)] [] (fun _ : Value => True) (fun x => [.arr x 4 1 ((stateOfR l).2.1.map fun b => [AV.bool b])]) (fun x => AV.tup [AV.agg (stateOfR l).1.cs, AV.is x, AV.bool (stateOfR l).2.2]) := by
 refine N7 Tryz.func67 rfl Tryz.ntmps67 rfl ?_
 refine A3 (A2 ?_)
 refine H3 rfl rfl rfl rfl Tryz.zeroValue43 rfl ?_
 intro b2
 refine A1 rfl (B3 rfl P8) ?_
 refine A1 rfl (B3 rfl F0) ?_
 refine A4 (A3 (A3 (A2 ?_)))
 refine A5 rfl ?_
 refine A1 rfl (G5 rfl N4 (A0 rfl)) ?_
 refine A1 rfl (B7 rfl B5) ?_
 refine A4 (D0 ?_)
 refine H4 [(0, _), (2, _), (9, _), (10, _)] _ (fun (i : Nat) => i ≤ l.length ∧ l.all goodRec = (l.drop i).all goodRec) (fun (i : Nat) => []) (fun (i : Nat) => [(11, AV.int i)]) (fun (i : Nat) => l.length - i) (0) ?_ (H8 ⟨rfl, rfl, rfl, rfl, rfl, trivial⟩) ?_
 ·exact ⟨Nat.zero_le _, rfl⟩
 intro i hinv
 refine A3 (A2 ?_)
 refine A1 rfl (I4 rfl (A0 rfl) (A0 rfl)) ?_
 refine A4 (A3 ?_)
 refine C3 (A0 rfl) ?_ ?_
 ·intro h12
  have k12 := of_decide_eq_true h12; try simp only [A9] at k12
  have hlt : i < l.length := by omega
  obtain ⟨r, hx⟩ := get_some hlt
  have hgr := hr r (G6 hx)
  refine C8 (A3 (D0 (A3 (A2 ?_))))
  refine A1 rfl (H5 rfl N4 N5 (A0 rfl) (A0 rfl) hx (by first | omega | (simp only [D1, A7, szR] at *; omega))) ?_
  refine A1 rfl (J0 rfl (A0 rfl) Y7 N5) ?_
  refine H3 rfl rfl rfl rfl Tryz.zeroValue104 rfl ?_
  intro b6
  refine E9 0 rfl rfl rfl (A0 rfl) (A0 rfl) (F9 _) rfl N5 rfl ?_
  refine A4 (A3 (A2 ?_))
  refine A1 rfl (I5 0 rfl (A0 rfl) rfl Y7 N5 rfl) ?_
  refine A1 rfl (D7 rfl Tryz.call106 rfl (AQ5 _ (by first | assumption | omega)) (A8 (A0 rfl) C6)) ?_
  refine A1 rfl (K3 rfl (A0 rfl)) ?_
  refine A4 ?_
  refine C3 (A0 rfl) ?_ ?_
  ·intro h17
   have he : stateOfR l = (zState, [], false) := by (unfold stateOfR; rw [if_neg (by rw [hinv.2, drop_some hx, List.all_cons, AG0, show l4Good r = false by simpa using h17]; simp)])
   rw [he]
   refine A3 (A2 ?_)
   refine A1 rfl (O6 (places := #[(0, 1), (1, 1), (2, 1), (3, 1)]) rfl D2 Tryz.zeroValue43 (fun w => by kernel_rfl) rfl J5 rfl) ?_
   refine E9 1 rfl rfl rfl (A0 rfl) (A0 rfl) (F9 _) rfl E1 rfl ?_
   refine A1 rfl (B3 rfl P8) ?_
   refine A1 rfl (B3 rfl F0) ?_
   refine A4 ?_
   refine C2 ?_
   refine Y4 1 1 2 rfl rfl T0 ?_
   refine Y4 1 2 5 rfl rfl T0 ?_
   refine Y4 1 3 3 rfl rfl T0 ?_
   refine x9 4 1 ?_
   exact T1 [0] (Value.slice none 0 0) (trivial) rfl (by rfl) (Y3 rfl (by decide) (F2 (Q2 (ys := _) 2 rfl rfl G7 E1 rfl) (F2 (B8 rfl (by rfl)) (F2 (B8 rfl (by rfl)) L5))))
  intro h17
  refine C8 (A2 ?_)
  refine A1 rfl (F6 rfl (A0 rfl) B5 (by first | omega | (simp only [D1, A7, szR] at *; omega))) ?_
  refine A5 rfl ?_
  refine A4 ?_
  refine J3 i (i + 1) ?_ ?_ (S0 1 ⟨rfl, rfl, rfl, rfl, rfl, trivial⟩)
  ·exact ⟨by omega, by rw [hinv.2, drop_some hx, List.all_cons, AG0, show l4Good r = true by simpa using h17]; rfl⟩
  omega
 intro h12
 have k12 := of_decide_eq_false h12; try simp only [A9] at k12
 have hge : l.length ≤ i := by omega
 have hall : l.all goodRec = true := by (rw [hinv.2, List.drop_eq_nil_of_le hge]; rfl)
 refine G0 ?_
 refine A3 (A3 (A2 ?_))
 refine A5 rfl ?_
 refine A1 rfl (G5 rfl N4 (A0 rfl)) ?_
 refine A1 rfl (N6 rfl (A0 rfl) B5) ?_
 refine A4 ?_
 refine C3 (A0 rfl) ?_ ?_
 ·intro h22
  have k22 := of_decide_eq_true h22; try simp only [A9] at k22
  have he : stateOfR l = (zState, [], false) := by (unfold stateOfR; rw [if_neg (by omega)])
  rw [he]
  refine A3 (A2 ?_)
  refine A1 rfl (O6 (places := #[(0, 1), (1, 1), (2, 1), (3, 1)]) rfl D2 Tryz.zeroValue43 (fun w => by kernel_rfl) rfl J5 rfl) ?_
  refine E9 0 rfl rfl rfl (A0 rfl) (A0 rfl) (F9 _) rfl E1 rfl ?_
  refine A1 rfl (B3 rfl P8) ?_
  refine A1 rfl (B3 rfl F0) ?_
  refine A4 ?_
  refine C2 ?_
  refine Y4 0 1 2 rfl rfl T0 ?_
  refine Y4 0 2 5 rfl rfl T0 ?_
  refine Y4 0 3 3 rfl rfl T0 ?_
  refine x9 4 1 ?_
  exact T1 [0] (Value.slice none 0 0) (trivial) rfl (by rfl) (Y3 rfl (by decide) (F2 (Q2 (ys := _) 1 rfl rfl G7 E1 rfl) (F2 (B8 rfl (by rfl)) (F2 (B8 rfl (by rfl)) L5))))
 intro h22
 have k22 := of_decide_eq_false h22; try simp only [A9] at k22
 have hl6 : l.length ≤ 60 := by omega
 have he : stateOfR l = (stFrom zState l, didFrom zState l, true) := if_pos ⟨hl6, hall⟩
 rw [he]
 refine C8 (A3 (A2 ?_))
 refine A5 rfl ?_
 refine g8 [] rfl rfl rfl rfl Tryz.call107 rfl (of_own _ (by first | assumption | omega) (by assumption)) (A8 (A0 rfl) C6) rfl ?_
 intro x26 ok26
 refine A5 rfl ?_
 refine A1 rfl (I1 rfl (A0 rfl) rfl) ?_
 refine A1 rfl (I1 rfl (A0 rfl) rfl) ?_
 refine H3 rfl rfl rfl rfl Tryz.zeroValue43 rfl ?_
 intro b7
 refine E9 0 rfl rfl rfl (A0 rfl) (A0 rfl) (F9 _) rfl E1 rfl ?_
 refine B4 rfl ?_
 refine A4 (A3 (A2 ?_))
 refine A1 rfl (I5 0 rfl (A0 rfl) rfl G7 E1 rfl) ?_
 refine A5 rfl ?_
 refine E9 2 rfl rfl rfl (A0 rfl) (A0 rfl) (F9 _) rfl E1 rfl ?_
 refine B4 rfl ?_
 refine A1 rfl (B3 rfl F0) ?_
 refine A4 ?_
 refine C2 ?_
 exact T1 [1] x26 (trivial) rfl (by rfl) (Y3 rfl (by decide) (F2 (Q2 (ys := _) 2 rfl rfl G7 E1 rfl) (F2 (B8 rfl (by rfl)) (F2 (B8 rfl (by rfl)) L5))))
theorem Aa6 (l : List TRec) (hl : l.length ≤ 1048576) (hr : ∀ r ∈ l, r.size ≤ 1100) : FSpec Tryz.prog 67 [AV.list 7 (l.map TRec.cs)] (AV.tup [AV.agg (stateOfR l).1.cs, AV.list 1 ((stateOfR l).2.1.map fun b => [AV.bool b]), AV.bool (stateOfR l).2.2]) :=
  P3 (An6 l hl hr) fun x _ => AV0 (H9 L0 (H9 (Q4 (G6 (i := 0) rfl) L7) (H9 L0 V8)))
end Go.Proofs.YtkegepoihkhihaaGreat

namespace Go.Proofs.YtkegepoihkhihaaGreat
open Go Go.AV Go.M
attribute [local irreducible] OpW OpA OpS AWP FSpec ESpec GSpec OpE RetOk RetOkG RvDen Le Ev GuardIs SrcIs Int.tmod IntKind.wrap bandI
end Go.Proofs.YtkegepoihkhihaaGreat

set_option maxHeartbeats 2000000
namespace Go.M
open Go.AV
end Go.M
namespace Go.Proofs.YtkegepoihkhihaaGreat
open Go Go.AV Go.M
attribute [local irreducible] OpW OpA OpS AWP FSpec ESpec GSpec OpE RetOk RetOkG RvDen Le Ev GuardIs SrcIs Int.tmod Int.tdiv IntKind.wrap bandI
end Go.Proofs.YtkegepoihkhihaaGreat

namespace Go.Proofs.YtkegepoihkhihaaGreat
open Go Go.AV Go.M
attribute [local irreducible] OpW OpA OpS AWP FSpec ESpec GSpec OpE RetOk RetOkG RvDen Le Ev GuardIs SrcIs SrcE Int.tmod Int.tdiv IntKind.wrap bandI
end Go.Proofs.YtkegepoihkhihaaGreat

namespace Go.M
open Go.AV
structure SB (m : Int) (s : TState) : Prop where
  floor : 0 ≤ s.Floor ∧ s.Floor ≤ m
  leads : ∀ h ∈ s.Held, 0 ≤ h.Lead ∧ h.Lead ≤ 3
end Go.M
namespace Go.Proofs.YtkegepoihkhihaaGreat
open Go Go.AV Go.M
attribute [local irreducible] OpW OpA OpS AWP FSpec ESpec GSpec OpE RetOk RetOkG RvDen Le Ev GuardIs SrcIs SrcE Int.tmod Int.tdiv IntKind.wrap bandI
end Go.Proofs.YtkegepoihkhihaaGreat

namespace Go.Proofs.YtkegepoihkhihaaGreat
open Go Go.AV Go.M
attribute [local irreducible] OpW OpA OpS AWP FSpec ESpec GSpec OpE RetOk RetOkG RvDen Le Ev GuardIs SrcIs
end Go.Proofs.YtkegepoihkhihaaGreat

namespace Go.Proofs.YtkegepoihkhihaaGreat
open Go Go.AV Go.M
attribute [local irreducible] OpW OpA OpS AWP FSpec ESpec GSpec OpE RetOk RetOkG RvDen Le Ev GuardIs SrcIs
end Go.Proofs.YtkegepoihkhihaaGreat

namespace Go.Proofs.YtkegepoihkhihaaGreat
open Go Go.AV Go.M
attribute [local irreducible] OpW OpA OpS AWP FSpec ESpec GSpec OpE RetOk RetOkG RvDen Le Ev GuardIs SrcIs Int.tmod IntKind.wrap bandI
end Go.Proofs.YtkegepoihkhihaaGreat

set_option maxHeartbeats 1000000
namespace Go.Proofs.YtkegepoihkhihaaGreat
open Go Go.AV Go.M
attribute [local irreducible] OpW OpA OpS AWP FSpec ESpec GSpec OpE RetOk RetOkG RvDen Le Ev GuardIs SrcIs
end Go.Proofs.YtkegepoihkhihaaGreat

namespace Go.Proofs.YtkegepoihkhihaaGreat
open Go Go.AV Go.M
attribute [local irreducible] OpW OpA OpS AWP FSpec ESpec GSpec OpE RetOk RetOkG RvDen Le Ev GuardIs SrcIs
end Go.Proofs.YtkegepoihkhihaaGreat

namespace Go.Proofs.YtkegepoihkhihaaGreat
open Go Go.Proofs Go.RowKit Go.Shelf Go.M
attribute [local go_sem] Oper.semAt_some
end Go.Proofs.YtkegepoihkhihaaGreat

namespace Go.Proofs.YtkegepoihkhihaaGreat
open Go Go.Proofs Go.RowKit Go.Shelf Go.M
attribute [local go_sem] Oper.semAt_some
end Go.Proofs.YtkegepoihkhihaaGreat

namespace Go.Proofs.YtkegepoihkhihaaGreat
open Go Go.AV Go.M
attribute [local irreducible] OpW OpA OpS AWP FSpec ESpec RetOk RvDen Le Ev GuardIs
end Go.Proofs.YtkegepoihkhihaaGreat

namespace Go.Proofs.YtkegepoihkhihaaGreat
open Go Go.AV Go.M
attribute [local irreducible] OpW OpA OpS AWP FSpec ESpec GSpec OpE RetOk RetOkG RvDen Le Ev GuardIs SrcIs Int.tmod IntKind.wrap bandI
end Go.Proofs.YtkegepoihkhihaaGreat

set_option maxHeartbeats 2000000
namespace Go.M
open Go.AV
end Go.M
namespace Go.Proofs.YtkegepoihkhihaaGreat
open Go Go.AV Go.M
attribute [local irreducible] OpW OpA OpS AWP FSpec ESpec GSpec OpE RetOk RetOkG RvDen Le Ev GuardIs SrcIs SrcE Int.tmod Int.tdiv IntKind.wrap bandI
end Go.Proofs.YtkegepoihkhihaaGreat

namespace Go.AV
open Go.ChangeShapes Go.WideShapes Go.ChangeAt Go.RowKit

def heapR (w : World) : RHeap := fun b => w.heap[b]?
theorem heapR_le (w : World) : RLe (heapR w) w := fun _ _ h => h
theorem Az3 {w : World} {a : Addr} {v : Value} (h : w.cell? a = some v) : rcell (heapR w) a = some v := h

def Opens (P : Program) (t : TypeId) (α : Type) (enc : α → List AV) (ok : α → Prop) : Prop :=
  ∀ (H : Type) (en : TypeId × Value → H) (w : World) (base : Nat) (spare : Nat → Bool) (held : Bool) (fuel : Nat) (cs : List Value) (x : DataW H × List MemPlace),
    DataW.trod en P w base spare held fuel t cs = some x → ∃ a : α, ok a ∧ DenC (heapR w) cs (enc a)
theorem AT7 {R : RHeap} {v : Value} {x : AV} (h : x.den R v) (h1 : v.oneCell' = true) : DenC R [v] [x] :=
  ⟨rfl, fun i u y hu hy => by
    cases i with
    | zero => simp at hu hy; subst hu; subst hy; exact ⟨h, h1⟩
    | succ i => simp at hu⟩
section
variable {P : Program} {t e : TypeId}
theorem BD1 {k : IntKind} (ht : P.underlying t = some (.int k)) : Opens P t Int (fun n => [AV.ik k n]) (fun n => (Lit.int k n).wf = true) := fun H en w base spare held fuel cs x h => by
  obtain ⟨n, rfl, _, hw⟩ := DataW.trod_int ht h
  exact ⟨n, hw, AT7 rfl rfl⟩
theorem Av3 {α : Type} {p : Nat → α → Prop} : ∀ n, (∀ i, i < n → ∃ a, p i a) → ∃ l : List α, l.length = n ∧ ∀ (i : Nat) (a : α), l[i]? = some a → p i a
  | 0, _ => ⟨[], rfl, fun i a h => by simp at h⟩
  | n + 1, h => by
    obtain ⟨l, h1, h2⟩ := Av3 n fun i hi => h i (by omega)
    obtain ⟨a, ha⟩ := h n (by omega)
    refine ⟨l ++ [a], by simp [h1], fun i b hb => ?_⟩
    by_cases hi : i < l.length
    · rw [List.getElem?_append_left hi] at hb; exact h2 i b hb
    · rw [List.getElem?_append_right (by omega)] at hb
      have hin : i = n := by
        have := (List.getElem?_eq_some_iff.1 hb).1
        simp at this; omega
      subst hin
      rw [h1] at hb; simp at hb; subst hb; exact ha
theorem As4 {α : Type} {enc : α → List AV} {ok : α → Prop} {sz : Nat} (ht : P.underlying t = some (.slice e)) (hc : P.cellsOf e = sz) (h : Opens P e α enc ok) (hl : ∀ a, (enc a).length = sz) :
    Opens P t (List α) (fun l => [AV.list sz (l.map enc)]) (fun l => ∀ a ∈ l, ok a) := fun H en w base spare held fuel cs x hx => by
  rcases DataW.trod_slice ht hx with ⟨rfl, _⟩ | ⟨a, len, cap, elems, rest, n, _, rfl, _, _, hlc, hcm, hel, hi, _, _⟩
  · exact ⟨[], by simp, AT7 ⟨none, 0, rfl, Nat.le_refl _, Nat.zero_le _, by simp, fun h => absurd rfl h⟩ rfl⟩
  · obtain ⟨l, h1, h2⟩ := Av3 (p := fun i b => ok b ∧ ∃ cs', w.cells? base (a.add (i * sz)) sz = some cs' ∧ DenC (heapR w) cs' (enc b)) len fun i hil => by
      have := hi i hil
      rw [hc, List.getElem?_eq_getElem (by omega)] at this
      obtain ⟨cs', hcs, htr⟩ := Option.bind_eq_some_iff.1 this
      obtain ⟨b, hb, hd⟩ := h H en w base spare held n cs' _ htr
      exact ⟨b, hb, cs', hcs, hd⟩
    refine ⟨l, fun b hb => ?_, AT7 ⟨some a, cap, by rw [A9, h1], by rw [A9, h1]; exact hlc, hcm, fun ec he => ?_, fun _ => ⟨a, rfl, fun j y hy => ?_⟩⟩ rfl⟩
    · obtain ⟨i, hib⟩ := List.getElem?_of_mem hb
      exact (h2 i b hib).1
    · obtain ⟨b, _, rfl⟩ := List.mem_map.1 he
      exact hl b
    · have hun : ∀ ec ∈ l.map enc, ec.length = sz := fun ec he => by
        obtain ⟨b, _, rfl⟩ := List.mem_map.1 he
        exact hl b
      have hjl : j < l.length * sz := by
        have := (List.getElem?_eq_some_iff.1 hy).1
        rwa [X6 hun, A9] at this
      have hsz : 0 < sz := by
        rcases Nat.eq_zero_or_pos sz with h0 | h0
        · subst h0; omega
        · exact h0
      have hij : j / sz < l.length := Nat.div_lt_of_lt_mul (by rw [Nat.mul_comm]; exact hjl)
      have hkm : j % sz < sz := Nat.mod_lt _ hsz
      have hjj : j / sz * sz + j % sz = j := by rw [Nat.mul_comm]; exact Nat.div_add_mod j sz
      have hb : l[j / sz]? = some l[j / sz] := List.getElem?_eq_getElem hij
      obtain ⟨_, cs', hcs, hd⟩ := h2 _ _ hb
      obtain ⟨_, hcl, hat⟩ := World.cells?_some hcs
      have hk : (enc l[j / sz])[j % sz]? = some ((enc l[j / sz])[j % sz]'(by rw [hl]; exact hkm)) := List.getElem?_eq_getElem _
      have hyk := X5 hun (i := j / sz) (e := enc l[j / sz]) (by rw [List.getElem?_map, hb]; rfl) hk
      rw [hjj, hy] at hyk
      injection hyk with hyk
      have hv : cs'[j % sz]? = some (cs'[j % sz]'(by rw [hcl]; exact hkm)) := List.getElem?_eq_getElem _
      have hcell := hat (j % sz) hkm
      rw [hv, AD3, hjj] at hcell
      refine ⟨_, Az3 hcell, ?_⟩
      have := hd.2 _ _ _ hv hk
      rw [hyk]; exact this
theorem arg_one {H : Type} {en : TypeId × Value → H} {W : World} {base : Nat} {spare : Nat → Bool} {held : Bool} {α : Type} {enc : α → AV} {ok : α → Prop} {v : Value} {d : DataW H} {p : List MemPlace}
    (h : Opens P t α (fun a => [enc a]) ok) (h1 : v.cells = #[v]) (hd : DataW.Trod en P W base spare held t v d p) : ∃ a, ok a ∧ (enc a).den (heapR W) v := by
  obtain ⟨fuel, hf⟩ := hd
  rw [h1] at hf
  obtain ⟨a, h2, h3⟩ := h H en W base spare held fuel _ _ hf
  exact ⟨a, h2, (h3.2 0 v _ rfl rfl).1⟩
theorem BD2 {f : FuncId} {xs : List AV} {b : Bool} {W : World} {vs : List Value} (h : FSpec P f xs (AV.bool b)) (hd : DenV (heapR W) vs xs) :
    Calls P f vs.toArray W fun e w' => e = .returned (.bool b) ∧ Below W.heap.size W w' :=
  (h (heapR W) W vs (heapR_le W) hd).mono fun e w' ⟨v, R', h1, h2, _, _, h5⟩ => ⟨by rw [h1]; exact congrArg Ending.returned h2, h5⟩
end
end Go.AV

namespace Go.AV
section
variable {P : Program} {G : Nat → Prop} {n : Nat} {own : List Own} {o : Oper} {E : EnvF}
end
end Go.AV

namespace Go.AV
open Go.RowKit (Below)
section
variable {P : Program} {G : Nat → Prop} {n : Nat} {own : List Own} {o : Oper} {E : EnvF}
end
end Go.AV

namespace Go.Proofs.YtkegepoihkhihaaGreat
open Go Go.AV Go.M
attribute [local irreducible] OpW OpA OpS AWP FSpec ESpec GSpec OpE RetOk RetOkG RvDen Le Ev GuardIs SrcIs SrcE Int.tmod Int.tdiv IntKind.wrap bandI
end Go.Proofs.YtkegepoihkhihaaGreat

namespace Go.Proofs.YtkegepoihkhihaaGreat
open Go Go.Sort Go.Shelf Go.RowKit
theorem An7 (x : Int) (W : World) : Calls Tryz.prog 159 #[.int .i64 x] W fun e w' => e = .returned (.bool false) ∧ w' = W := by
  go_enter Tryz.func159, Tryz.ntmps159
  go_wp2
  go_ret
  exact ⟨by simp, rfl⟩
theorem An8 (x : ByteArray) (W : World) : Calls Tryz.prog 160 #[.string x] W fun e w' => e = .returned (.bool false) ∧ w' = W := by
  go_enter Tryz.func160, Tryz.ntmps160
  go_wp2
  go_ret
  exact ⟨by simp, rfl⟩
set_option maxHeartbeats 1000000 in
theorem AM7 (x y : Int) (W : World) : Calls Tryz.prog 104 #[.int .i64 x, .int .i64 y] W fun e w' => e = .returned (.int .i64 (M.cmpInt x y)) ∧ w' = W := by
  go_enter Tryz.func104, Tryz.ntmps104
  go_wp2_with (go_at_call 159; refine (An7 _ _).mono ?_; rintro e w' ⟨rfl, hw⟩; rw [hw])
  all_goals (go_ret; refine ⟨?_, rfl⟩; unfold M.cmpInt; (repeat' split) <;> first | rfl | (exfalso; omega))
set_option maxHeartbeats 1000000 in
theorem An9 (x y : List UInt8) (W : World) : Calls Tryz.prog 105 #[.string ⟨x.toArray⟩, .string ⟨y.toArray⟩] W fun e w' => e = .returned (.int .i64 (M.cmpStr x y)) ∧ w' = W := by
  have htri := M.bytesLess_tri y x
  go_enter Tryz.func105, Tryz.ntmps105
  go_wp2_with (go_at_call 160; refine (An8 _ _).mono ?_; rintro e w' ⟨rfl, hw⟩; rw [hw])
  all_goals (go_ret; refine ⟨?_, rfl⟩; unfold M.cmpStr; simp_all)
set_option maxHeartbeats 1000000 in
theorem As5 (x y z : Int) (b : Nat) (W : World) (h0 : W.cell? ⟨b, 0, none⟩ = some (.int .i64 x)) (h1 : W.cell? ⟨b, 1, none⟩ = some (.int .i64 y)) (h2 : W.cell? ⟨b, 2, none⟩ = some (.int .i64 z)) :
    Calls Tryz.prog 103 #[.slice (some ⟨b, 0, none⟩) 3 3] W fun e w' => e = .returned (.int .i64 (M.orInt [x, y, z])) ∧ w' = W := by
  have hc : ∀ k : Nat, k < 3 → W.cell? ⟨b, 0 + k, none⟩ = some (.int .i64 ([x, y, z].getD k 0)) := fun k hk => by
    rcases k with _ | _ | _ | k
    · exact h0
    · exact h1
    · exact h2
    · omega
  obtain ⟨l, hl⟩ : ∃ l, [x, y, z] = l := ⟨_, rfl⟩
  have hlen : l.length = 3 := by rw [← hl]; rfl
  rw [hl] at hc ⊢
  obtain ⟨r, hres⟩ : ∃ r, M.orInt l = r := ⟨_, rfl⟩
  rw [hres]
  go_enter Tryz.func103, Tryz.ntmps103
  go_wp2
  go_loop [8] (fun i => ∃ k : Nat, k ≤ 3 ∧ i = .int .i64 k ∧ r = M.orInt (l.drop k)) (fun i => 3 - (intOf i).toNat)
  case atStart => exact ⟨0, Nat.zero_le _, rfl, hres.symm⟩
  case round =>
    obtain ⟨k, hk, rfl, hr⟩ := hrel
    have hcell : (k : Int) < 3 → W.cell? ⟨b, k, none⟩ = some (.int .i64 (l.getD k 0)) := fun h => by have := hc k (by omega); rwa [Nat.zero_add] at this
    have hstep : (k : Int) < 3 → M.orInt (l.drop k) = if l.getD k 0 = 0 then M.orInt (l.drop (k + 1)) else l.getD k 0 := fun h => by
      have hk3 : k < l.length := by omega
      rw [AV.drop_some (List.getElem?_eq_getElem hk3), M.orInt, List.getD_eq_getElem?_getD, List.getElem?_eq_getElem hk3]; rfl
    have hend : ¬ (k : Int) < 3 → M.orInt (l.drop k) = 0 := fun h => by rw [List.drop_eq_nil_of_le (by omega)]; rfl
    generalize l.getD k 0 = v at hcell hstep
    clear hc h0 h1 h2
    obtain ⟨t, ht⟩ : ∃ t, M.orInt (l.drop k) = t := ⟨_, rfl⟩
    rw [ht] at hr hstep hend
    clear hres
    subst hr
    go_wp2
    · exfalso; have h9 : (v != 0) = true := by assumption
      simp_all
    · go_ret; exact ⟨rfl, rfl⟩
    case roundEnd =>
      have h8 : (k : Int) < 3 := by assumption
      have h9 : (v != 0) = false := by assumption
      have hv : v = 0 := by simpa using h9
      refine ⟨⟨k + 1, by omega, by simp, ?_⟩, by simp [intOf]; omega⟩
      rw [hstep h8, if_pos hv]
    · go_ret; exact ⟨rfl, rfl⟩
def encItem (x : Go.M.TFeedItem) : List Value := [.int .i64 x.Time, .int .i64 x.Group, .string ⟨x.Key.toArray⟩, .string ⟨x.Val.toArray⟩, .bool x.Gone]
theorem Z5 (W : World) (vs : Array Value) (t : TypeId) (j : Nat) : (W.alloc (.cells vs t)).cell? ⟨W.heap.size, j, none⟩ = vs[j]? := by
  unfold World.cell?
  dsimp only
  rw [show (W.alloc (.cells vs t)).heap[W.heap.size]? = some (.cells vs t) from heap_alloc_new W _]
  rfl
theorem AH7 (W : World) (o : Obj) (k j : Nat) (h : k < W.heap.size) : (W.alloc o).cell? ⟨k, j, none⟩ = W.cell? ⟨k, j, none⟩ := by
  unfold World.cell?
  dsimp only
  rw [show (W.alloc o).heap[k]? = W.heap[k]? from Below.heap_alloc W o k h]
theorem e7 (W : World) (o : Obj) : (W.alloc o).heap.size = W.heap.size + 1 := by simp
theorem BD3 (W w2 : World) (a b : Go.M.TFeedItem) (t : TypeId) (h : (W.alloc (.cells #[.int .i64 a.Time, .int .i64 a.Group, .string ⟨a.Key.toArray⟩, .string ⟨a.Val.toArray⟩, .bool a.Gone] t)).alloc (.cells #[.int .i64 b.Time, .int .i64 b.Group, .string ⟨b.Key.toArray⟩, .string ⟨b.Val.toArray⟩, .bool b.Gone] t) = w2) :
    w2.cell? ⟨W.heap.size, 0, none⟩ = some (.int .i64 a.Time) ∧ w2.cell? ⟨W.heap.size, 1, none⟩ = some (.int .i64 a.Group) ∧ w2.cell? ⟨W.heap.size, 2, none⟩ = some (.string ⟨a.Key.toArray⟩) ∧
    w2.cell? ⟨W.heap.size + 1, 0, none⟩ = some (.int .i64 b.Time) ∧ w2.cell? ⟨W.heap.size + 1, 1, none⟩ = some (.int .i64 b.Group) ∧ w2.cell? ⟨W.heap.size + 1, 2, none⟩ = some (.string ⟨b.Key.toArray⟩) ∧
    ∃ os, w2 = grow W os := by
  subst h
  refine ⟨?_, ?_, ?_, ?_, ?_, ?_, _, by rw [alloc_eq_grow, alloc_eq_grow, grow_grow]⟩
  · rw [AH7 _ _ _ _ (by rw [e7]; omega), Z5]; rfl
  · rw [AH7 _ _ _ _ (by rw [e7]; omega), Z5]; rfl
  · rw [AH7 _ _ _ _ (by rw [e7]; omega), Z5]; rfl
  · rw [← e7 W (.cells #[.int .i64 a.Time, .int .i64 a.Group, .string ⟨a.Key.toArray⟩, .string ⟨a.Val.toArray⟩, .bool a.Gone] t), Z5]; rfl
  · rw [← e7 W (.cells #[.int .i64 a.Time, .int .i64 a.Group, .string ⟨a.Key.toArray⟩, .string ⟨a.Val.toArray⟩, .bool a.Gone] t), Z5]; rfl
  · rw [← e7 W (.cells #[.int .i64 a.Time, .int .i64 a.Group, .string ⟨a.Key.toArray⟩, .string ⟨a.Val.toArray⟩, .bool a.Gone] t), Z5]; rfl
theorem Az4 (W : World) (x y z : Int) (t : TypeId) : (W.alloc (.cells #[.int .i64 x, .int .i64 y, .int .i64 z] t)).cell? ⟨W.heap.size, 0, none⟩ = some (.int .i64 x) ∧ (W.alloc (.cells #[.int .i64 x, .int .i64 y, .int .i64 z] t)).cell? ⟨W.heap.size, 1, none⟩ = some (.int .i64 y) ∧ (W.alloc (.cells #[.int .i64 x, .int .i64 y, .int .i64 z] t)).cell? ⟨W.heap.size, 2, none⟩ = some (.int .i64 z) := by
  refine ⟨?_, ?_, ?_⟩ <;> (rw [Z5]; rfl)
set_option maxHeartbeats 4000000 in
theorem AM8 (a b : Go.M.TFeedItem) (W : World) : Calls Tryz.prog 64 #[.agg (encItem a).toArray, .agg (encItem b).toArray] W fun e w' => e = .returned (.int .i64 (M.compareItems a b)) ∧ ∃ q os', w' = grow (W.drewN q) os' := by
  obtain ⟨r, hr⟩ : ∃ r, M.compareItems a b = r := ⟨_, rfl⟩
  have h1 := AM7 a.Time b.Time
  have h2 := AM7 a.Group b.Group
  have h3 := An9 a.Key b.Key
  have hr2 : M.orInt [M.cmpInt a.Time b.Time, M.cmpInt a.Group b.Group, M.cmpStr a.Key b.Key] = r := hr
  rw [hr]
  clear hr
  generalize M.cmpInt a.Time b.Time = x at h1 hr2
  generalize M.cmpInt a.Group b.Group = y at h2 hr2
  generalize M.cmpStr a.Key b.Key = z at h3 hr2
  unfold encItem
  go_enter Tryz.func64, Tryz.ntmps64
  go_wp2
  generalize hw2 : (W.alloc (.cells #[.int .i64 a.Time, .int .i64 a.Group, .string ⟨a.Key.toArray⟩, .string ⟨a.Val.toArray⟩, .bool a.Gone] 63)).alloc (.cells #[.int .i64 b.Time, .int .i64 b.Group, .string ⟨b.Key.toArray⟩, .string ⟨b.Val.toArray⟩, .bool b.Gone] 63) = w2
  obtain ⟨fa0, fa1, fa2, fb0, fb1, fb2, hex⟩ := BD3 W w2 a b 63 hw2
  clear hw2
  refine wp_region_still_tail 15 (by kernel_rfl) (by kernel_rfl) ?_
  simp only [z8, List.take_zero, AE6, List.drop_zero]
  have hex3 : ∃ os, w2.drew = grow (W.drewN 1) os := by
    obtain ⟨os, h⟩ := hex
    exact ⟨os, by rw [h]; rfl⟩
  clear hex
  repeat still_step
  still_call (h1 _)
  repeat still_step
  still_call (h2 _)
  repeat still_step
  still_call (h3 _)
  repeat still_step
  try refine wpStill_nil ?_
  clear fa0 fa1 fa2 fb0 fb1 fb2
  change wpList _ _ _ _ _ w2.drew
  generalize w2.drew = w3 at hex3 ⊢
  have h4 := Az4 w3 x y z 3
  have h5 := As5 x y z w3.heap.size (w3.alloc (.cells #[.int .i64 x, .int .i64 y, .int .i64 z] 3)) h4.1 h4.2.1 h4.2.2
  rw [hr2] at h5
  clear h4 hr2 h1 h2 h3
  go_wp2_with (go_at_call 103; refine h5.mono ?_; rintro e w' ⟨rfl, hw⟩; rw [hw])
  go_ret
  obtain ⟨os, h⟩ := hex3
  exact ⟨rfl, 1, os ++ #[_], by rw [h, alloc_eq_grow, grow_grow]⟩
end Go.Proofs.YtkegepoihkhihaaGreat

set_option maxHeartbeats 1000000
namespace Go.Proofs.YtkegepoihkhihaaGreat
open Go Go.AV Go.M
attribute [local irreducible] OpW OpA OpS AWP FSpec ESpec GSpec OpE RetOk RetOkG RvDen Le Ev GuardIs SrcIs Int.tmod Int.tdiv IntKind.wrap
end Go.Proofs.YtkegepoihkhihaaGreat

namespace Go.M
open Go.AV
theorem AB5 (a b : TFeedItem) : l23Ahead a b = true ↔ a.Time < b.Time ∨ (a.Time = b.Time ∧ (a.Group < b.Group ∨ (a.Group = b.Group ∧ Op.bytesLess a.Key b.Key = true))) := by
  unfold l23Ahead
  by_cases h1 : a.Time = b.Time
  · by_cases h2 : a.Group = b.Group
    · simp [h1, h2]
    · simp [h1, h2]
  · simp [h1]
theorem r9 (a : TFeedItem) : l23Ahead a a = false := by
  cases h : l23Ahead a a with
  | false => rfl
  | true =>
    rw [AB5] at h
    rcases h with h | ⟨_, h | ⟨_, h⟩⟩
    · omega
    · omega
    · rw [J8] at h; cases h
theorem f8 (a b c : TFeedItem) (h : l23Ahead a b = true) (k : l23Ahead b c = true) : l23Ahead a c = true := by
  rw [AB5] at h k ⊢
  rcases h with h | ⟨h1, h | ⟨h2, h⟩⟩
  · rcases k with k | ⟨k1, k⟩
    · exact .inl (by omega)
    · exact .inl (by omega)
  · rcases k with k | ⟨k1, k | ⟨k2, k⟩⟩
    · exact .inl (by omega)
    · exact .inr ⟨by omega, .inl (by omega)⟩
    · exact .inr ⟨by omega, .inl (by omega)⟩
  · rcases k with k | ⟨k1, k | ⟨k2, k⟩⟩
    · exact .inl (by omega)
    · exact .inr ⟨by omega, .inl (by omega)⟩
    · exact .inr ⟨by omega, .inr ⟨by omega, O4 h k⟩⟩
def sameKey (a b : TFeedItem) : Prop := a.Time = b.Time ∧ a.Group = b.Group ∧ a.Key = b.Key
theorem Ae8 (a b : TFeedItem) : l23Ahead a b = true ∨ sameKey a b ∨ l23Ahead b a = true := by
  rw [AB5, AB5]; unfold sameKey
  by_cases h1 : a.Time = b.Time
  · by_cases h2 : a.Group = b.Group
    · rcases AA9 a.Key b.Key with h | h | h
      · exact .inl (.inr ⟨h1, .inr ⟨h2, h⟩⟩)
      · exact .inr (.inl ⟨h1, h2, h⟩)
      · exact .inr (.inr (.inr ⟨h1.symm, .inr ⟨h2.symm, h⟩⟩))
    · by_cases h3 : a.Group < b.Group
      · exact .inl (.inr ⟨h1, .inl h3⟩)
      · exact .inr (.inr (.inr ⟨h1.symm, .inl (by omega)⟩))
  · by_cases h3 : a.Time < b.Time
    · exact .inl (.inl h3)
    · exact .inr (.inr (.inl (by omega)))
theorem Az5 {a b : TFeedItem} (h : sameKey a b) (c : TFeedItem) : l23Ahead a c = l23Ahead b c := by
  obtain ⟨h1, h2, h3⟩ := h
  unfold l23Ahead; rw [h1, h2, h3]
theorem AX0 {a b : TFeedItem} (h : l23Ahead a b = true) : l23Ahead b a = false := by
  cases e : l23Ahead b a with
  | false => rfl
  | true => have := f8 _ _ _ h e; rw [r9] at this; cases this
theorem BD4 : Swo l23Ahead where
  asym a b h := AX0 h
  ntr a b c h k := by
    cases e : l23Ahead c a with
    | false => rfl
    | true =>
      rcases Ae8 b c with f | f | f
      · rw [f8 _ _ _ f e] at h; cases h
      · rw [Az5 f, e] at h; cases h
      · rw [f] at k; cases k
theorem lt_ahead : (fun x y : TFeedItem => decide (compareItems x y < 0)) = l23Ahead := by
  funext x y
  rw [← s8]
  by_cases h : compareItems x y < 0
  · simp [h]
  · simp [h]; omega
def Srt (l : List TFeedItem) : Prop := l.Pairwise fun a b => l23Ahead a b = true
theorem Av4 {l : List TFeedItem} : adj l23Ahead l = true ↔ Srt l := Ak4 f8
theorem AX1 (l : List TFeedItem) : isFeed l = true ↔ Srt l ∧ l.length ≤ 400 := by
  unfold isFeed
  rw [AJ9 s8, Bool.and_eq_true, Av4, decide_eq_true_eq]
  constructor
  · exact fun h => ⟨h.1, by have := h.2; omega⟩
  · exact fun h => ⟨h.1, by have := h.2; omega⟩
theorem S8 (l : List TFeedItem) : l23Feed l = true ↔ (∀ x ∈ l, l23Good x = true) ∧ Srt l ∧ l.length ≤ 400 := by
  unfold l23Feed
  rw [Bool.and_eq_true, Bool.and_eq_true, Av4, decide_eq_true_eq, List.all_eq_true]
  constructor
  · exact fun h => ⟨h.1.1, h.1.2, by have := h.2; omega⟩
  · exact fun h => ⟨⟨h.1, h.2.1⟩, by have := h.2.2; omega⟩
theorem Aa7 : ∀ {l : List TFeedItem}, Srt l → ∀ x ∈ l, ∀ y ∈ l, l23Ahead x y = false → l23Ahead y x = false → x = y
  | [], _, x, hx, _, _, _, _ => by cases hx
  | z :: l, h, x, hx, y, hy, h1, h2 => by
    obtain ⟨k1, k2⟩ := List.pairwise_cons.1 h
    rcases List.mem_cons.1 hx with e | ex
    · rcases List.mem_cons.1 hy with f | fy
      · rw [e, f]
      · rw [e, k1 y fy] at h1; cases h1
    · rcases List.mem_cons.1 hy with f | fy
      · rw [f, k1 x ex] at h2; cases h2
      · exact Aa7 k2 x ex y fy h1 h2
theorem AP0 : ∀ {a b : List TFeedItem}, Srt a → Srt b → (∀ x, x ∈ a ↔ x ∈ b) → a = b
  | [], [], _, _, _ => rfl
  | [], y :: b, _, _, h => by have := (h y).2 List.mem_cons_self; cases this
  | x :: a, [], _, _, h => by have := (h x).1 List.mem_cons_self; cases this
  | x :: a, y :: b, ha, hb, h => by
    obtain ⟨a1, a2⟩ := List.pairwise_cons.1 ha
    obtain ⟨b1, b2⟩ := List.pairwise_cons.1 hb
    have e : x = y := by
      rcases List.mem_cons.1 ((h x).1 List.mem_cons_self) with e | e
      · exact e
      · rcases List.mem_cons.1 ((h y).2 List.mem_cons_self) with f | f
        · exact f.symm
        · have := AX0 (b1 x e); rw [a1 y f] at this; cases this
    subst e
    rw [AP0 a2 b2 fun z => ?_]
    constructor
    · intro hz
      rcases List.mem_cons.1 ((h z).1 (List.mem_cons_of_mem _ hz)) with e | e
      · subst e; have := a1 z hz; rw [r9] at this; cases this
      · exact e
    · intro hz
      rcases List.mem_cons.1 ((h z).2 (List.mem_cons_of_mem _ hz)) with e | e
      · subst e; have := b1 z hz; rw [r9] at this; cases this
      · exact e
def putR : List TFeedItem → TFeedItem → List TFeedItem × Bool
  | [], x => ([x], true)
  | y :: l, x => if l23Ahead y x = true then (y :: (putR l x).1, (putR l x).2) else if l23Ahead x y = true then (x :: y :: l, true) else (y :: l, decide (y = x))
theorem Aa8 {x : TFeedItem} : ∀ {l : List TFeedItem} {k : Nat}, k ≤ l.length → (∀ i y, i < k → l[i]? = some y → l23Ahead y x = true) → putR l x = (l.take k ++ (putR (l.drop k) x).1, (putR (l.drop k) x).2)
  | l, 0, _, _ => by simp
  | [], k + 1, h, _ => by simp at h
  | y :: l, k + 1, h, g => by
    rw [putR, if_pos (g 0 y (by omega) rfl), Aa8 (l := l) (k := k) (by simpa using h) fun i z hi hz => g (i + 1) z (by omega) (by simpa using hz)]
    rfl
theorem putR_end {x : TFeedItem} {l : List TFeedItem} {k : Nat} (h : k ≤ l.length) (g : ∀ i y, i < k → l[i]? = some y → l23Ahead y x = true) (he : ∀ y, l[k]? = some y → l23Ahead x y = true) (hn : ∀ y, l[k]? = some y → l23Ahead y x = false) : putR l x = (l.take k ++ x :: l.drop k, true) := by
  rw [Aa8 h g]
  by_cases hk : k < l.length
  · obtain ⟨y, hy⟩ := get_some hk
    rw [drop_some hy, putR, if_neg (by rw [hn y hy]; decide), if_pos (he y hy)]
  · rw [List.drop_eq_nil_of_le (by omega)]; rfl
theorem BD5 {x y : TFeedItem} {l : List TFeedItem} {k : Nat} (h : k ≤ l.length) (g : ∀ i y, i < k → l[i]? = some y → l23Ahead y x = true) (hy : l[k]? = some y) (he : l23Ahead x y = false) (hn : l23Ahead y x = false) : putR l x = (l, decide (y = x)) := by
  rw [Aa8 h g, drop_some hy, putR, if_neg (by rw [hn]; decide), if_neg (by rw [he]; decide)]
  show (l.take k ++ (y :: l.drop (k + 1)), decide (y = x)) = _
  rw [← drop_some hy, List.take_append_drop]
theorem AH8 (x : TFeedItem) : ∀ l : List TFeedItem, (putR l x).1.length ≤ l.length + 1
  | [] => Nat.le_refl _
  | y :: l => by
    have := AH8 x l
    rw [putR]
    split
    · show (putR l x).1.length + 1 ≤ l.length + 1 + 1; omega
    · split
      · exact Nat.le_refl _
      · exact Nat.le_succ _
theorem Ao0 (x : TFeedItem) : ∀ l : List TFeedItem, ∀ z ∈ (putR l x).1, z ∈ l ∨ z = x
  | [], z, h => by simp [putR] at h; exact .inr h
  | y :: l, z, h => by
    rw [putR] at h
    split at h
    · rcases List.mem_cons.1 h with rfl | h
      · exact .inl List.mem_cons_self
      · exact (Ao0 x l z h).imp (List.mem_cons_of_mem _) id
    · split at h
      · rcases List.mem_cons.1 h with rfl | h
        · exact .inr rfl
        · exact .inl h
      · exact .inl h
theorem Aa9 {x : TFeedItem} : ∀ {l : List TFeedItem}, Srt l → (putR l x).2 = true → Srt (putR l x).1 ∧ ∀ z, z ∈ (putR l x).1 ↔ z ∈ l ∨ z = x
  | [], _, _ => ⟨by unfold Srt putR; simp, fun z => by simp [putR]⟩
  | y :: l, h, g => by
    obtain ⟨k1, k2⟩ := List.pairwise_cons.1 h
    rw [putR] at g ⊢
    by_cases h1 : l23Ahead y x = true
    · rw [if_pos h1] at g ⊢
      obtain ⟨i1, i2⟩ := Aa9 k2 g
      refine ⟨List.pairwise_cons.2 ⟨fun z hz => ?_, i1⟩, fun z => ?_⟩
      · rcases (i2 z).1 hz with hz | rfl
        · exact k1 z hz
        · exact h1
      · show z ∈ y :: (putR l x).1 ↔ _
        rw [List.mem_cons, i2, List.mem_cons, or_assoc]
    · rw [if_neg h1] at g ⊢
      by_cases h2 : l23Ahead x y = true
      · rw [if_pos h2] at g ⊢
        refine ⟨List.pairwise_cons.2 ⟨fun z hz => ?_, h⟩, fun z => ?_⟩
        · rcases List.mem_cons.1 hz with rfl | hz
          · exact h2
          · exact f8 _ _ _ h2 (k1 z hz)
        · show z ∈ x :: y :: l ↔ _
          rw [List.mem_cons, or_comm]
      · rw [if_neg h2] at g ⊢
        have e : y = x := by simpa using g
        subst e
        refine ⟨h, fun z => ?_⟩
        show z ∈ y :: l ↔ _
        constructor
        · exact .inl
        · rintro (hz | rfl)
          · exact hz
          · exact List.mem_cons_self
theorem Ab0 {x : TFeedItem} : ∀ {l : List TFeedItem}, (putR l x).2 = false → ∃ y ∈ l, y ≠ x ∧ l23Ahead y x = false ∧ l23Ahead x y = false
  | [], g => by simp [putR] at g
  | y :: l, g => by
    rw [putR] at g
    by_cases h1 : l23Ahead y x = true
    · rw [if_pos h1] at g
      obtain ⟨z, z1, z2⟩ := Ab0 (l := l) g
      exact ⟨z, List.mem_cons_of_mem _ z1, z2⟩
    · rw [if_neg h1] at g
      by_cases h2 : l23Ahead x y = true
      · rw [if_pos h2] at g; cases g
      · rw [if_neg h2] at g
        exact ⟨y, List.mem_cons_self, by simpa using g, by simpa using h1, by simpa using h2⟩
def mergeAll : List TFeedItem → List TFeedItem → Option (List TFeedItem)
  | o, [] => some o
  | o, x :: r => if (putR o x).2 = true then mergeAll (putR o x).1 r else none
def mergeF (a b : List TFeedItem) : List TFeedItem × Bool :=
  if l23Feed a = true ∧ l23Feed b = true then (match mergeAll a b with | some o => if 400 < o.length then ([], false) else (o, true) | none => ([], false)) else ([], false)
theorem Ah8 {l o b : List TFeedItem} {i : Nat} {x : TFeedItem} (h : mergeAll l b = mergeAll o (b.drop i)) (hx : b[i]? = some x) (k : (putR o x).2 = true) : mergeAll l b = mergeAll (putR o x).1 (b.drop (i + 1)) := by
  rw [h, drop_some hx, mergeAll, if_pos k]
theorem Ah9 {l o b : List TFeedItem} {i : Nat} {x : TFeedItem} (h : mergeAll l b = mergeAll o (b.drop i)) (hx : b[i]? = some x) (k : (putR o x).2 = false) : mergeAll l b = none := by
  rw [h, drop_some hx, mergeAll, if_neg (by rw [k]; decide)]
theorem Ao1 {l o b : List TFeedItem} {i : Nat} (h : mergeAll l b = mergeAll o (b.drop i)) (hi : b.length ≤ i) : mergeAll l b = some o := by
  rw [h, List.drop_eq_nil_of_le hi]; rfl
theorem t2 : ∀ {b a r : List TFeedItem}, Srt a → mergeAll a b = some r → Srt r ∧ (∀ z, z ∈ r ↔ z ∈ a ∨ z ∈ b) ∧ r.length ≤ a.length + b.length
  | [], a, r, h, e => by injection e with e; subst e; exact ⟨h, fun z => by simp, Nat.le_refl _⟩
  | x :: b, a, r, h, e => by
    rw [mergeAll] at e
    split at e
    · rename_i hk
      obtain ⟨k1, k2⟩ := Aa9 h hk
      obtain ⟨i1, i2, i3⟩ := t2 k1 e
      refine ⟨i1, fun z => ?_, ?_⟩
      · rw [i2, k2, List.mem_cons, or_assoc]
      · have := AH8 x a; rw [J7]; omega
    · cases e
theorem AI8 : ∀ {b a : List TFeedItem}, mergeAll a b = none → ∃ x y, (x ∈ a ∨ x ∈ b) ∧ (y ∈ a ∨ y ∈ b) ∧ x ≠ y ∧ l23Ahead x y = false ∧ l23Ahead y x = false
  | [], a, e => by cases e
  | x :: b, a, e => by
    rw [mergeAll] at e
    split at e
    · obtain ⟨u, v, hu, hv, hh⟩ := AI8 e
      have : ∀ z, z ∈ (putR a x).1 ∨ z ∈ b → z ∈ a ∨ z ∈ x :: b := fun z hz => by
        rcases hz with hz | hz
        · rcases Ao0 x a z hz with hz | rfl
          · exact .inl hz
          · exact .inr List.mem_cons_self
        · exact .inr (List.mem_cons_of_mem _ hz)
      exact ⟨u, v, this u hu, this v hv, hh⟩
    · rename_i hk
      obtain ⟨y, y1, y2, y3, y4⟩ := Ab0 (l := a) (x := x) (by simpa using hk)
      exact ⟨y, x, .inl y1, .inr List.mem_cons_self, y2, y3, y4⟩
theorem Ao2 (a b : List TFeedItem) : mergeF a b = ([], false) ∨ ∃ r, mergeF a b = (r, true) ∧ l23Feed a = true ∧ l23Feed b = true ∧ mergeAll a b = some r ∧ r.length ≤ 400 := by
  unfold mergeF
  split
  · rename_i h
    cases e : mergeAll a b with
    | none => exact .inl rfl
    | some r =>
      show (if 400 < r.length then ([], false) else (r, true)) = _ ∨ ∃ q, (if 400 < r.length then ([], false) else (r, true)) = _ ∧ _
      split
      · exact .inl rfl
      · exact .inr ⟨r, rfl, h.1, h.2, rfl, by omega⟩
  · exact .inl rfl
end Go.M

namespace Go.Proofs
open Go.Shelf
def Tryz.sortItemsF_ren : Go.Shelf.Ren := ⟨fun | 6 => 63 | 15 => 102 | 14 => 101 | 28 => 157 | 29 => 158 | 20 => 149 | 21 => 150 | 22 => 151 | 23 => 152 | 24 => 153 | 25 => 154 | 26 => 155 | 27 => 156 | 46 => 193 | 47 => 194 | 48 => 195 | 49 => 196 | 50 => 197 | 57 => 222 | n => n, fun | 22 => 36 | 24 => 63 | 25 => 96 | 3 => 3 | 39 => 158 | 0 => 0 | 53 => 200 | 55 => 112 | 4 => 4 | 46 => 194 | 45 => 193 | 50 => 24 | 5 => 5 | 9 => 9 | 66 => 228 | 70 => 232 | 76 => 251 | 77 => 252 | n => n, fun | n => n⟩
theorem Tryz.sortItemsF : Go.Proofs.SlLaysF0.n6 Tryz.prog Tryz.sortItemsF_ren := {
  mixed := by kernel_rfl
  f6 := ⟨Tryz.f63.name, by decide, Tryz.func63.trans (congrArg some (by kernel_rfl))⟩
  f14 := ⟨Tryz.f101.name, by decide, Tryz.func101.trans (congrArg some (by kernel_rfl))⟩
  f15 := Tryz.func102.trans (congrArg some (by kernel_rfl))
  f20 := ⟨Tryz.f149.name, by decide, Tryz.func149.trans (congrArg some (by kernel_rfl))⟩
  f21 := ⟨Tryz.f150.name, by decide, Tryz.func150.trans (congrArg some (by kernel_rfl))⟩
  f22 := ⟨Tryz.f151.name, by decide, Tryz.func151.trans (congrArg some (by kernel_rfl))⟩
  f23 := ⟨Tryz.f152.name, by decide, Tryz.func152.trans (congrArg some (by kernel_rfl))⟩
  f24 := ⟨Tryz.f153.name, by decide, Tryz.func153.trans (congrArg some (by kernel_rfl))⟩
  f25 := ⟨Tryz.f154.name, by decide, Tryz.func154.trans (congrArg some (by kernel_rfl))⟩
  f26 := ⟨Tryz.f155.name, by decide, Tryz.func155.trans (congrArg some (by kernel_rfl))⟩
  f27 := ⟨Tryz.f156.name, by decide, Tryz.func156.trans (congrArg some (by kernel_rfl))⟩
  f28 := Tryz.func157.trans (congrArg some (by kernel_rfl))
  f29 := Tryz.func158.trans (congrArg some (by kernel_rfl))
  f46 := ⟨Tryz.f193.name, by decide, Tryz.func193.trans (congrArg some (by kernel_rfl))⟩
  f47 := Tryz.func194.trans (congrArg some (by kernel_rfl))
  f48 := Tryz.func195.trans (congrArg some (by kernel_rfl))
  f49 := ⟨Tryz.f196.name, by decide, Tryz.func196.trans (congrArg some (by kernel_rfl))⟩
  f50 := ⟨Tryz.f197.name, by decide, Tryz.func197.trans (congrArg some (by kernel_rfl))⟩
  f57 := ⟨Tryz.f222.name, by decide, Tryz.func222.trans (congrArg some (by kernel_rfl))⟩
  t0 := Tryz.underlying0
  a0 := Tryz.isAgg0
  z0 := Tryz.sizeOf0
  v0 := Tryz.zeroValue0
  t3 := Q7
  a3 := C1
  z3 := B9
  v3 := Tryz.zeroValue3
  t4 := V5
  a4 := K7
  z4 := K2
  v4 := Tryz.zeroValue4
  t5 := Tryz.underlying5
  a5 := Tryz.isAgg5
  z5 := Tryz.sizeOf5
  v5 := Tryz.zeroValue5
  t9 := K9
  a9 := F5
  z9 := E3
  v9 := Tryz.zeroValue9
  t22 := E7
  a22 := Tryz.isAgg36
  z22 := Tryz.sizeOf36
  v22 := Tryz.zeroValue36
  t25 := Tryz.underlying96
  a25 := Tryz.isAgg96
  z25 := Tryz.sizeOf96
  v25 := Tryz.zeroValue96
  t39 := Tryz.underlying158
  a39 := Tryz.isAgg158
  z39 := Tryz.sizeOf158
  v39 := Tryz.zeroValue158
  t45 := Tryz.underlying193
  a45 := Tryz.isAgg193
  z45 := Tryz.sizeOf193
  v45 := Tryz.zeroValue193
  t46 := Tryz.underlying194
  a46 := Tryz.isAgg194
  z46 := Tryz.sizeOf194
  v46 := Tryz.zeroValue194
  t50 := Tryz.underlying24
  a50 := Tryz.isAgg24
  z50 := Tryz.sizeOf24
  v50 := Tryz.zeroValue24
  t53 := Tryz.underlying200
  a53 := Tryz.isAgg200
  z53 := Tryz.sizeOf200
  v53 := Tryz.zeroValue200
  t55 := Tryz.underlying112
  a55 := Tryz.isAgg112
  z55 := Tryz.sizeOf112
  v55 := Tryz.zeroValue112
  t66 := Tryz.underlying228
  a66 := Tryz.isAgg228
  z66 := Tryz.sizeOf228
  v66 := Tryz.zeroValue228
  t70 := Tryz.underlying232
  a70 := Tryz.isAgg232
  z70 := Tryz.sizeOf232
  v70 := Tryz.zeroValue232
  t76 := Tryz.underlying251
  a76 := Tryz.isAgg251
  z76 := Tryz.sizeOf251
  v76 := Tryz.zeroValue251
  t77 := Tryz.underlying252
  a77 := Tryz.isAgg252
  z77 := Tryz.sizeOf252
  v77 := Tryz.zeroValue252 }
end Go.Proofs
