/- Texts of the claim, part 6. -/
import Derived.RangeFuncNested
import Derived.RangeFuncBound
import Derived.RangeFuncCalls
import Derived.RangeFuncLeaves
import Derived.RangeFuncBox
import Derived.Shelf.Abstract
import Derived.Shelf.RegionOpen
import Derived.WalkKit
import Derived.OwnWalkIn
import Derived.TacticsInMore
import Derived.LoopNIn
import Derived.LoopIn
import Derived.Test.YtoaoicnnimjbeaaGreatZShares5

set_option linter.unusedVariables false
set_option linter.unusedSimpArgs false
set_option maxRecDepth 100000
set_option maxHeartbeats 1000000
namespace Go.M
open Go.AV
theorem fullC_at {l : List TCell} {k : Str} {c : TCell} (hc : ¬ atC l k < 0 → findC l k = some c) : fullC l k = (decide ((0 : Int) ≤ atC l k) && decide ((16 : Int) ≤ (c.Vers.length : Int))) := by
  unfold fullC
  by_cases h : atC l k < 0
  · rw [BD2 h, decide_eq_false (by omega)]; rfl
  · rw [hc h, decide_eq_true (by omega), Bool.true_and]
    dsimp only
    rw [decide_eq_decide]; omega
theorem at_some (l : List TCell) (k : Str) : ∃ c : TCell, ¬ atC l k < 0 → (∃ p : Nat, atC l k = (p : Int) ∧ l[p]? = some c) ∧ findC l k = some c := by
  by_cases h : atC l k < 0
  · exact ⟨⟨[], []⟩, fun k => absurd h k⟩
  · obtain ⟨p, c, h1, h2, h3⟩ := BD3 h
    exact ⟨c, fun _ => ⟨⟨p, h1, h2⟩, h3⟩⟩
theorem AD6 {s : TState} {i : Nat} {h y : THeld} (hx : s.Held[i]? = some h) (hy : s.Held[i - 1]? = some y) : heldAt s i = (!((!l4Good (hRec h) || decide (s.Floor < h.Time)) || (decide ((0 : Int) < (i : Int)) && decide (h.Txn ≤ y.Txn))) && ((s.Held.take i).all (fun g => apart g h.Reads h.Writes) && h.Writes.all fun w => decide (lastTime s.Cells w.Key < h.Time))) := by
  rw [AC1 hx hy, AD2]
  have h2 : ((s.Held.take i).all fun g => apart g h.Reads h.Writes) = !((s.Held.take i).any fun g => clash h g) := by
    rw [List.not_any_eq_all_not]; congr 1; funext g; rw [AY3, Bool.not_not]
  have h3 : (h.Writes.all fun w => decide (lastTime s.Cells w.Key < h.Time)) = !(h.Writes.any fun w => decide (h.Time ≤ lastTime s.Cells w.Key)) := by
    rw [List.not_any_eq_all_not]; congr 1; funext w; rw [← decide_not, decide_eq_decide]; omega
  rw [h2, h3]
theorem AP4 {s : TState} {i : Nat} {t y : TTold} (hx : s.Told[i]? = some t) (hy : s.Told[i - 1]? = some y) : toldAt s i = (!((((!within t.Txn 1 60 || (decide ((0 : Int) < (i : Int)) && decide (t.Txn ≤ y.Txn))) || (t.Yes && !within t.Time 1 s.Floor)) || (!t.Yes && (t.Time != 0)))) && !hasH s.Held t.Txn) := by
  rw [AH1 hx hy]
  congr 2
  show ((!within t.Txn 1 60 || _) || _) = _
  have e : (!((t.Yes && within t.Time 1 s.Floor) || (!t.Yes && (t.Time == 0)))) = ((t.Yes && !within t.Time 1 s.Floor) || (!t.Yes && (t.Time != 0))) := by
    show _ = ((t.Yes && !within t.Time 1 s.Floor) || (!t.Yes && !(t.Time == 0)))
    cases t.Yes <;> simp
  rw [e]
  cases within t.Txn 1 60 <;> cases (decide ((0 : Int) < (i : Int)) && decide (t.Txn ≤ y.Txn)) <;> cases (t.Yes && !within t.Time 1 s.Floor) <;> cases (!t.Yes && (t.Time != 0)) <;> rfl
def heldFO (l : List THeld) (n : Int) : THeld × Bool := match findH l n with | some h => (h, true) | none => (zHeld, false)
def toldFO (l : List TTold) (n : Int) : TTold × Bool := match findT l n with | some h => (h, true) | none => (zTold, false)
theorem AH5 (l : List THeld) (n : Int) : (heldFO l n).2 = hasH l n := by
  unfold heldFO
  cases h : findH l n with
  | none => exact (AO3.1 h).symm
  | some x => obtain ⟨h1, h2⟩ := AD4 h; exact (hasH_iff.2 ⟨x, h1, h2⟩).symm
theorem An1 (l : List TTold) (n : Int) : (toldFO l n).2 = hasT l n := by
  unfold toldFO
  cases h : findT l n with
  | none => exact (BI2.1 h).symm
  | some x =>
    unfold findT at h
    exact (hasT_iff.2 ⟨x, List.mem_of_find?_eq_some h, by simpa using List.find?_some h⟩).symm
theorem AD7 {α : Type} {p : α → Bool} : ∀ {l : List α} {i : Nat} {x : α}, l[i]? = some x → p x = true → (∀ j y, j < i → l[j]? = some y → p y = false) → l.find? p = some x
  | [], i, x, h, _, _ => by simp at h
  | y :: l, 0, x, h, hp, _ => by simp at h; subst h; rw [List.find?_cons, hp]
  | y :: l, i + 1, x, h, hp, hn => by
    rw [List.find?_cons, hn 0 y (by omega) rfl]
    exact AD7 (by simpa using h) hp fun j z hj hz => hn (j + 1) z (by omega) (by simpa using hz)
theorem Ab7 {α : Type} {p : α → Bool} {l : List α} (hn : ∀ (j : Nat) (y : α), l[j]? = some y → p y = false) : l.find? p = none := by
  rw [List.find?_eq_none]
  intro x hx
  obtain ⟨j, hj⟩ := List.getElem?_of_mem hx
  rw [hn j x hj]; decide
end Go.M
namespace Go.Proofs.YtoaoicnnimjbeaaGreat
open Go Go.AV Go.M
attribute [local irreducible] OpW OpA OpS AWP FSpec ESpec GSpec OpE RetOk RetOkG RvDen Le Ev GuardIs SrcIs Int.tmod Int.tdiv IntKind.wrap
theorem AC2 (h : THeld) : FSpec Tryz.prog 91 [AV.agg h.cs] (AV.agg (hRec h).cs) := by
 refine E2 Tryz.func91 rfl Tryz.ntmps91 rfl ?_
 refine A3 (A2 ?_)
 refine N1 rfl rfl rfl rfl (A0 rfl) ?_
 intro b1
 refine F5 rfl rfl rfl rfl Tryz.zeroValue104 rfl ?_
 intro b2
 refine A4 (A3 (A2 ?_))
 refine A1 rfl (B1 0 rfl G2 rfl B5 (A0 rfl) rfl) ?_
 refine A1 rfl (B0 1 rfl (A0 rfl) rfl C6 rfl) ?_
 refine A1 rfl (B1 1 rfl G2 rfl B5 (A0 rfl) rfl) ?_
 refine A1 rfl (B0 1 rfl (A0 rfl) rfl C6 rfl) ?_
 refine A1 rfl (B1 2 rfl G2 rfl B5 (A0 rfl) rfl) ?_
 refine A1 rfl (B0 1 rfl (A0 rfl) rfl C6 rfl) ?_
 refine A1 rfl (B1 3 rfl G2 rfl H5 (A0 rfl) rfl) ?_
 refine A1 rfl (B0 1 rfl (A0 rfl) rfl K7 rfl) ?_
 refine A1 rfl (B1 4 rfl G2 rfl L0 (A0 rfl) rfl) ?_
 refine A1 rfl (B0 1 rfl (A0 rfl) rfl M3 rfl) ?_
 refine A1 rfl (N5 (places := #[(0, 1), (1, 1), (2, 1), (3, 1), (4, 1), (5, 1), (6, 1)]) rfl B7 Tryz.zeroValue104 (fun w => by kernel_rfl) rfl (D0 B4 (L8 _ _) (D0 (A0 rfl) (L8 _ _) (D0 (A0 rfl) (L8 _ _) (D0 (A0 rfl) (L8 _ _) (D0 (A0 rfl) (O9 _ _) (D0 (A0 rfl) (O9 _ _) G9)))))) rfl) ?_
 refine D2 0 rfl rfl rfl (A0 rfl) (A0 rfl) (D6 _) rfl H8 rfl ?_
 refine A4 ?_
 refine C2 ?_
 exact I3 rfl (J9 (ys := _) 0 rfl rfl O6 H8 rfl)
theorem Af4 (l : List TWrite) (k : Str) : FSpec Tryz.prog 193 [AV.list 3 (l.map TWrite.cs), AV.str k] (AV.bool (hasK l k)) := by
 refine E2 Tryz.func193 rfl Tryz.ntmps193 rfl ?_
 refine U5 (t := 0) rfl fun hl => ?_
 try simp only [A8] at hl
 refine A3 (A2 ?_)
 refine A1 rfl (B6 rfl E9) ?_
 refine A4 (A3 (A3 (A2 ?_)))
 refine A5 rfl ?_
 refine A1 rfl (F6 rfl D1 (A0 rfl)) ?_
 refine A1 rfl (B8 rfl B4) ?_
 refine A4 (C7 ?_)
 refine J0 [(1, _), (7, _), (8, _)] _ (fun (i : Nat) => i ≤ l.length ∧ hasK l k = (l.drop i).any (fun w => w.Key == k)) (fun (i : Nat) => []) (fun (i : Nat) => [(9, AV.int i)]) (fun (i : Nat) => l.length - i) (0) ?_ (K2 ⟨rfl, rfl, rfl, rfl, trivial⟩) ?_
 ·exact ⟨Nat.zero_le _, rfl⟩
 intro i hinv
 refine A3 (A2 ?_)
 refine A1 rfl (J8 rfl (A0 rfl) (A0 rfl)) ?_
 refine A4 (A3 ?_)
 refine B9 (A0 rfl) ?_ ?_
 ·intro h10
  have k10 := of_decide_eq_true h10; try simp only [A8] at k10
  have hlt : i < l.length := by omega
  obtain ⟨x, hx⟩ := get_some hlt
  refine C3 (A3 (C7 (A3 (A2 ?_))))
  refine A1 rfl (I2 rfl D1 E5 (A0 rfl) (A0 rfl) hx (by first | omega | (simp only [C8, A7, szR] at *; omega))) ?_
  refine A1 rfl (K6 rfl (A0 rfl) P8 E5) ?_
  refine F5 rfl rfl rfl rfl Tryz.zeroValue79 rfl ?_
  intro b6
  refine D2 0 rfl rfl rfl (A0 rfl) (A0 rfl) (D6 _) rfl E5 rfl ?_
  refine A4 (A3 (A2 ?_))
  refine A1 rfl (B1 0 rfl J3 rfl E3 (A0 rfl) rfl) ?_
  refine A1 rfl (B0 0 rfl (A0 rfl) rfl G3 rfl) ?_
  refine A5 rfl ?_
  refine A1 rfl (u6 rfl (A0 rfl) (A0 rfl)) ?_
  refine A4 ?_
  refine B9 (A0 rfl) ?_ ?_
  ·intro h16
   refine A3 (A2 ?_)
   refine A1 rfl (B6 rfl E9) ?_
   refine A4 ?_
   refine C2 ?_
   exact I3 rfl (C1 rfl (by first | exact congrArg AV.bool (by rw [hinv.2, drop_some hx, List.any_cons, h16]; rfl) | exact congrArg AV.bool (by rw [hinv.2, List.drop_eq_nil_of_le hge]; rfl)))
  intro h16
  refine C3 (A2 ?_)
  refine A1 rfl (G0 rfl (A0 rfl) B4 (by first | omega | (simp only [C8, A7, szR] at *; omega))) ?_
  refine A5 rfl ?_
  refine A4 ?_
  refine K4 i (i + 1) ?_ ?_ (X3 1 ⟨rfl, rfl, rfl, rfl, trivial⟩)
  ·exact ⟨by omega, by rw [hinv.2, drop_some hx, List.any_cons, h16]; rfl⟩
  omega
 intro h10
 have k10 := of_decide_eq_false h10; try simp only [A8] at k10
 have hge : l.length ≤ i := by omega
 refine G1 ?_
 refine A3 (A2 ?_)
 refine A1 rfl (B6 rfl E9) ?_
 refine A4 ?_
 refine C2 ?_
 exact I3 rfl (C1 rfl (by first | exact congrArg AV.bool (by rw [hinv.2, drop_some hx, List.any_cons, h16]; rfl) | exact congrArg AV.bool (by rw [hinv.2, List.drop_eq_nil_of_le hge]; rfl)))
theorem BI9 (l : List Str) (k : Str) : FSpec Tryz.prog 194 [strs l, AV.str k] (AV.bool (hasS l k)) := by
 refine E2 Tryz.func194 rfl Tryz.ntmps194 rfl ?_
 refine U5 (t := 0) rfl fun hl => ?_
 try simp only [A8] at hl
 refine A3 (A2 ?_)
 refine A1 rfl (B6 rfl E9) ?_
 refine A4 (A3 (A3 (A2 ?_)))
 refine A5 rfl ?_
 refine A1 rfl (F6 rfl C9 (A0 rfl)) ?_
 refine A1 rfl (B8 rfl B4) ?_
 refine A4 (C7 ?_)
 refine J0 [(1, _), (7, _), (8, _)] _ (fun (i : Nat) => i ≤ l.length ∧ hasS l k = (l.drop i).any (fun x => k == x)) (fun (i : Nat) => []) (fun (i : Nat) => [(9, AV.int i)]) (fun (i : Nat) => l.length - i) (0) ?_ (K2 ⟨rfl, rfl, rfl, rfl, trivial⟩) ?_
 ·exact ⟨Nat.zero_le _, rfl⟩
 intro i hinv
 refine A3 (A2 ?_)
 refine A1 rfl (J8 rfl (A0 rfl) (A0 rfl)) ?_
 refine A4 (A3 ?_)
 refine B9 (A0 rfl) ?_ ?_
 ·intro h10
  have k10 := of_decide_eq_true h10; try simp only [A8] at k10
  have hlt : i < l.length := by omega
  obtain ⟨x, hx⟩ := get_some hlt
  refine C3 (A3 (C7 (A3 (A2 ?_))))
  refine A1 rfl (I2 rfl C9 E3 (A0 rfl) (A0 rfl) hx (by first | omega | (simp only [C8, A7, szR] at *; omega))) ?_
  refine A1 rfl (L6 rfl (A0 rfl) G3 rfl) ?_
  refine B3 rfl ?_
  refine A4 (A3 (A2 ?_))
  refine A5 rfl ?_
  refine A5 rfl ?_
  refine A1 rfl (u6 rfl (A0 rfl) (A0 rfl)) ?_
  refine A4 ?_
  refine B9 (A0 rfl) ?_ ?_
  ·intro h15
   refine A3 (A2 ?_)
   refine A1 rfl (B6 rfl E9) ?_
   refine A4 ?_
   refine C2 ?_
   exact I3 rfl (C1 rfl (by first | exact congrArg AV.bool (by rw [hinv.2, drop_some hx, List.any_cons, show (k == x) = true from by have h9 := h15; simp at h9 ⊢; exact h9.symm]; rfl) | exact congrArg AV.bool (by rw [hinv.2, List.drop_eq_nil_of_le hge]; rfl)))
  intro h15
  refine C3 (A2 ?_)
  refine A1 rfl (G0 rfl (A0 rfl) B4 (by first | omega | (simp only [C8, A7, szR] at *; omega))) ?_
  refine A5 rfl ?_
  refine A4 ?_
  refine K4 i (i + 1) ?_ ?_ (K2 ⟨rfl, rfl, rfl, rfl, trivial⟩)
  ·exact ⟨by omega, by rw [hinv.2, drop_some hx, List.any_cons, show (k == x) = false from by have h9 := h15; simp at h9 ⊢; exact fun e => h9 e.symm]; rfl⟩
  omega
 intro h10
 have k10 := of_decide_eq_false h10; try simp only [A8] at k10
 have hge : l.length ≤ i := by omega
 refine G1 ?_
 refine A3 (A2 ?_)
 refine A1 rfl (B6 rfl E9) ?_
 refine A4 ?_
 refine C2 ?_
 exact I3 rfl (C1 rfl (by first | exact congrArg AV.bool (by rw [hinv.2, drop_some hx, List.any_cons, show (k == x) = true from by have h9 := h15; simp at h9 ⊢; exact h9.symm]; rfl) | exact congrArg AV.bool (by rw [hinv.2, List.drop_eq_nil_of_le hge]; rfl)))
theorem apart_spec (h : THeld) (rs : List Str) (ws : List TWrite) : FSpec Tryz.prog 158 [AV.agg h.cs, strs rs, AV.list 3 (ws.map TWrite.cs)] (AV.bool (apart h rs ws)) := by
 refine E2 Tryz.func158 rfl Tryz.ntmps158 rfl ?_
 refine U5 (t := 1) rfl fun hl1 => ?_
 try simp only [A8] at hl1
 refine U5 (t := 2) rfl fun hl2 => ?_
 try simp only [A8] at hl2
 refine A3 (A2 ?_)
 refine N1 rfl rfl rfl rfl (A0 rfl) ?_
 intro b3
 refine A1 rfl (B6 rfl E9) ?_
 refine A4 (A3 (A3 (A2 ?_)))
 refine A5 rfl ?_
 refine A1 rfl (F6 rfl C9 (A0 rfl)) ?_
 refine A1 rfl (B8 rfl B4) ?_
 refine A4 (C7 ?_)
 refine J0 [(2, _), (3, _), (11, _), (12, _)] _ (fun (i : Nat) => i ≤ rs.length ∧ (rs.all fun k => !hasK h.Writes k) = ((rs.drop i).all fun k => !hasK h.Writes k)) (fun (i : Nat) => []) (fun (i : Nat) => [(13, AV.int i)]) (fun (i : Nat) => rs.length - i) (0) ?_ (K2 ⟨rfl, rfl, rfl, rfl, rfl, trivial⟩) ?_
 ·exact ⟨Nat.zero_le _, rfl⟩
 intro i hinv
 refine A3 (A2 ?_)
 refine A1 rfl (J8 rfl (A0 rfl) (A0 rfl)) ?_
 refine A4 (A3 ?_)
 refine B9 (A0 rfl) ?_ ?_
 ·intro h14
  have k14 := of_decide_eq_true h14; try simp only [A8] at k14
  have hlt : i < rs.length := by omega
  obtain ⟨x, hx⟩ := get_some hlt
  refine C3 (A3 (C7 (A3 (A2 ?_))))
  refine A1 rfl (I2 rfl C9 E3 (A0 rfl) (A0 rfl) hx (by first | omega | (simp only [C8, A7, szR] at *; omega))) ?_
  refine A1 rfl (L6 rfl (A0 rfl) G3 rfl) ?_
  refine B3 rfl ?_
  refine A4 (A3 (A2 ?_))
  refine A1 rfl (B1 4 rfl G2 rfl L0 (A0 rfl) rfl) ?_
  refine A1 rfl (B0 0 rfl (A0 rfl) rfl M3 rfl) ?_
  refine A5 rfl ?_
  refine A1 rfl (D7 rfl Tryz.call193 rfl (Af4 _ _) (A6 (A0 rfl) (A6 (A0 rfl) C0))) ?_
  refine A4 ?_
  refine B9 (A0 rfl) ?_ ?_
  ·intro h20
   have hfin : apart h rs ws = false := by (unfold apart; rw [hinv.2, drop_some hx, List.all_cons, h20]; rfl)
   refine A3 (A2 ?_)
   refine A1 rfl (B6 rfl E9) ?_
   refine A4 ?_
   refine C2 ?_
   exact I3 rfl (C1 rfl (by exact congrArg AV.bool hfin.symm))
  intro h20
  refine C3 (A2 ?_)
  refine A1 rfl (G0 rfl (A0 rfl) B4 (by first | omega | (simp only [C8, A7, szR] at *; omega))) ?_
  refine A5 rfl ?_
  refine A4 ?_
  refine K4 i (i + 1) ?_ ?_ (K2 ⟨rfl, rfl, rfl, rfl, rfl, trivial⟩)
  ·exact ⟨by omega, by rw [hinv.2, drop_some hx, List.all_cons, h20]; rfl⟩
  omega
 intro h14
 have k14 := of_decide_eq_false h14; try simp only [A8] at k14
 have hge : rs.length ≤ i := by omega
 have hr : (rs.all fun k => !hasK h.Writes k) = true := by (rw [hinv.2, List.drop_eq_nil_of_le hge]; rfl)
 refine G1 ?_
 refine A3 (A3 (A2 ?_))
 refine A5 rfl ?_
 refine A1 rfl (F6 rfl D1 (A0 rfl)) ?_
 refine A1 rfl (B8 rfl B4) ?_
 refine A4 (C7 ?_)
 refine J0 [(3, _), (22, _), (23, _)] _ (fun (q : Nat) => q ≤ ws.length ∧ (ws.all fun w => !(hasK h.Writes w.Key || hasS h.Reads w.Key)) = ((ws.drop q).all fun w => !(hasK h.Writes w.Key || hasS h.Reads w.Key))) (fun (q : Nat) => []) (fun (q : Nat) => [(24, AV.int q)]) (fun (q : Nat) => ws.length - q) (0) ?_ (K2 ⟨rfl, rfl, rfl, rfl, trivial⟩) ?_
 ·exact ⟨Nat.zero_le _, rfl⟩
 intro q hinv
 refine A3 (A2 ?_)
 refine A1 rfl (J8 rfl (A0 rfl) (A0 rfl)) ?_
 refine A4 (A3 ?_)
 refine B9 (A0 rfl) ?_ ?_
 ·intro h25
  have k25 := of_decide_eq_true h25; try simp only [A8] at k25
  have hlt : q < ws.length := by omega
  obtain ⟨x, hx⟩ := get_some hlt
  refine C3 (A3 (C7 (A3 (A2 ?_))))
  refine A1 rfl (I2 rfl D1 E5 (A0 rfl) (A0 rfl) hx (by first | omega | (simp only [C8, A7, szR] at *; omega))) ?_
  refine A1 rfl (K6 rfl (A0 rfl) P8 E5) ?_
  refine F5 rfl rfl rfl rfl Tryz.zeroValue79 rfl ?_
  intro b10
  refine D2 0 rfl rfl rfl (A0 rfl) (A0 rfl) (D6 _) rfl E5 rfl ?_
  refine A4 (A3 (A2 ?_))
  refine A1 rfl (B1 4 rfl G2 rfl L0 (A0 rfl) rfl) ?_
  refine A1 rfl (B0 1 rfl (A0 rfl) rfl M3 rfl) ?_
  refine A1 rfl (B1 0 rfl J3 rfl E3 (A0 rfl) rfl) ?_
  refine A1 rfl (B0 0 rfl (A0 rfl) rfl G3 rfl) ?_
  refine A1 rfl (D7 rfl Tryz.call193 rfl (Af4 _ _) (A6 (A0 rfl) (A6 (A0 rfl) C0))) ?_
  refine A5 rfl ?_
  refine F3 rfl (fun hc => B1 3 rfl G2 rfl H5 (A0 rfl) rfl) ?_
  refine F3 rfl (fun hc => B0 1 rfl (A9 rfl hc) rfl K7 rfl) ?_
  refine F3 rfl (fun hc => B1 0 rfl J3 rfl E3 (A0 rfl) rfl) ?_
  refine F3 rfl (fun hc => B0 0 rfl (A9 rfl hc) rfl G3 rfl) ?_
  refine F3 rfl (fun hc => D7 rfl Tryz.call194 rfl (BI9 _ _) (A6 (A9 rfl hc) (A6 (A9 rfl hc) C0))) ?_
  refine A1 rfl (Q8 rfl (A0 rfl) (F7 rfl)) ?_
  refine A4 ?_
  refine B9 (A0 rfl) ?_ ?_
  ·intro h39
   have hfin : apart h rs ws = false := by (unfold apart; rw [hinv.2, drop_some hx, List.all_cons, h39]; simp)
   refine A3 (A2 ?_)
   refine A1 rfl (B6 rfl E9) ?_
   refine A4 ?_
   refine C2 ?_
   exact I3 rfl (C1 rfl (by exact congrArg AV.bool hfin.symm))
  intro h39
  refine C3 (A2 ?_)
  refine A1 rfl (G0 rfl (A0 rfl) B4 (by first | omega | (simp only [C8, A7, szR] at *; omega))) ?_
  refine A5 rfl ?_
  refine A4 ?_
  refine K4 q (q + 1) ?_ ?_ (X3 1 ⟨rfl, rfl, rfl, rfl, trivial⟩)
  ·exact ⟨by omega, by rw [hinv.2, drop_some hx, List.all_cons, h39]; rfl⟩
  omega
 intro h25
 have k25 := of_decide_eq_false h25; try simp only [A8] at k25
 have hge : ws.length ≤ q := by omega
 have hfin : apart h rs ws = true := by (unfold apart; rw [hr, hinv.2, List.drop_eq_nil_of_le hge]; rfl)
 refine G1 ?_
 refine A3 (A2 ?_)
 refine A1 rfl (B6 rfl E9) ?_
 refine A4 ?_
 refine C2 ?_
 exact I3 rfl (C1 rfl (by exact congrArg AV.bool hfin.symm))
theorem Af5 (s : TState) (ws : List TWrite) (hs : s.size ≤ 400000) (hw : sizeL TWrite.size ws ≤ 400000) : FSpec Tryz.prog 159 [AV.agg s.cs, AV.list 3 (ws.map TWrite.cs)] (AV.bool (room s.Cells (ws ++ hWs s.Held))) := by
 obtain ⟨hs1, hs2, hs3, hs4, hs5⟩ := X0 hs
 have hsum : sizeL TCell.size s.Cells + sizeL THeld.size s.Held ≤ 400000 := by have h9 : s.size = sizeL TCell.size s.Cells + sizeL THeld.size s.Held + s.Told.length := rfl; omega
 have hcl := O4 (f := TCell.size) (l := s.Cells)
 have hwl := O4 (f := TWrite.size) (l := ws)
 have hhl := AW9 (l := s.Held)
 obtain ⟨p, hp⟩ : ∃ p : TWrite → Bool, p = fun w => !fullC s.Cells w.Key := ⟨_, rfl⟩
 obtain ⟨al, hal⟩ : ∃ al, ws ++ hWs s.Held = al := ⟨_, rfl⟩
 have hall : al.length ≤ 800000 - s.Cells.length := by rw [← hal, J6]; omega
 rw [hal]
 refine E2 Tryz.func159 rfl Tryz.ntmps159 rfl ?_
 refine A3 (A2 ?_)
 refine N1 rfl rfl rfl rfl (A0 rfl) ?_
 intro b2
 refine A1 rfl (B6 rfl E9) ?_
 refine A4 (A3 (A2 ?_))
 refine S0 9 1 rfl rfl rfl rfl L4 ?_
 intro v5
 refine A4 (A3 (A3 (A2 ?_)))
 refine A1 rfl (B1 1 rfl C4 rfl P6 (A0 rfl) rfl) ?_
 refine A1 rfl (B0 1 rfl (A0 rfl) rfl S1 rfl) ?_
 refine A1 rfl (F6 rfl F2 (A0 rfl)) ?_
 refine A1 rfl (B8 rfl B4) ?_
 refine A4 (C7 ?_)
 refine P3 [(1, _), (2, _), (4, _), (15, _), (16, _)] _ (fun (i : Nat) (v : Value) => i ≤ s.Cells.length) (fun (i : Nat) (v : Value) => [.arr v 9 1 ((putAllS (cKeys (s.Cells.take i)) []).map fun s => [AV.str s])]) (fun (i : Nat) (v : Value) => [(5, AV.is v), (17, AV.int i)]) (fun (i : Nat) (v : Value) => s.Cells.length - i) (0) (v5) ?_ (O8 (by rfl) ⟨rfl, rfl, rfl, rfl, rfl, rfl, rfl, trivial⟩) ?_
 ·exact Nat.zero_le _
 intro i v hinv
 refine A3 (A2 ?_)
 refine A1 rfl (J8 rfl (A0 rfl) (A0 rfl)) ?_
 refine A4 (A3 ?_)
 refine B9 (A0 rfl) ?_ ?_
 ·intro h18
  have k18 := of_decide_eq_true h18; try simp only [A8] at k18
  have hlt : i < s.Cells.length := by omega
  obtain ⟨c, hx⟩ := get_some hlt
  have hpl := r4 (cKeys (s.Cells.take i)) []
  unfold cKeys at hpl
  simp only [A8, D9, N4] at hpl
  refine C3 (A3 (C7 (A3 (A2 ?_))))
  refine A1 rfl (I2 rfl F2 G5 (A0 rfl) (A0 rfl) hx (by first | omega | (simp only [C8, A7, szR] at *; omega))) ?_
  refine A1 rfl (K6 rfl (A0 rfl) U8 G5) ?_
  refine F5 rfl rfl rfl rfl Tryz.zeroValue115 rfl ?_
  intro b7
  refine D2 0 rfl rfl rfl (A0 rfl) (A0 rfl) (D6 _) rfl G5 rfl ?_
  refine A4 (A2 ?_)
  refine A5 rfl ?_
  refine A1 rfl (B1 0 rfl I1 rfl E3 (A0 rfl) rfl) ?_
  refine A1 rfl (B0 0 rfl (A0 rfl) rfl G3 rfl) ?_
  refine H9 [1] rfl rfl rfl rfl Tryz.call66 rfl (n7 v (putAllS (cKeys (s.Cells.take i)) []) c.Key (o0 List.Pairwise.nil).1 (by unfold cKeys; omega)) (A6 (A0 rfl) (A6 (A0 rfl) C0)) rfl ?_
  intro x24 ok24
  refine B3 rfl ?_
  refine A4 (A2 ?_)
  refine A1 rfl (G0 rfl (A0 rfl) B4 (by first | omega | (simp only [C8, A7, szR] at *; omega))) ?_
  refine A5 rfl ?_
  refine A4 ?_
  refine O2 i v (i + 1) (x24) ?_ ?_ (Le.trans (F8 [1, 0] rfl) (K0 1 (by exact congrArg (fun z => Own.arr _ 9 1 (List.map (fun s => [AV.str s]) z) :: _) (by unfold cKeys; rw [List.take_add_one, hx, List.map_append]; exact (u9 _ _ _).symm)) ⟨rfl, rfl, rfl, rfl, rfl, rfl, rfl, trivial⟩))
  ·omega
  omega
 intro h18
 have k18 := of_decide_eq_false h18; try simp only [A8] at k18
 have hge : s.Cells.length ≤ i := by omega
 rw [List.take_of_length_le hge]
 refine G1 ?_
 refine A3 (A2 ?_)
 refine U6 rfl rfl rfl rfl D1 E5 ?_
 intro v26
 refine A5 rfl ?_
 refine L2 (by' := 40) 0 rfl rfl rfl rfl D1 Tryz.type79 rfl rfl rfl rfl rfl rfl (A0 rfl) (A0 rfl) rfl (by simp only [N4, A8]; omega) ?_
 intro v28_1
 refine B3 rfl ?_
 refine A4 (A3 (A3 (A2 ?_)))
 refine A1 rfl (B1 2 rfl C4 rfl G8 (A0 rfl) rfl) ?_
 refine A1 rfl (B0 2 rfl (A0 rfl) rfl M5 rfl) ?_
 refine A1 rfl (F6 rfl E4 (A0 rfl)) ?_
 refine A1 rfl (B8 rfl B4) ?_
 refine A4 (C7 ?_)
 refine d7 [(2, _), (4, _), (5, _), (30, _), (31, _)] _ (fun (q : Nat) (u : Value) (a : List TWrite) => q ≤ s.Held.length ∧ a = ws ++ hWs (s.Held.take q)) (fun (q : Nat) (u : Value) (a : List TWrite) => [.arr u 79 3 (a.map TWrite.cs)]) (fun (q : Nat) (u : Value) (a : List TWrite) => [(8, AV.is u), (32, AV.int q)]) (fun (q : Nat) (u : Value) (a : List TWrite) => s.Held.length - q) (0) (v28_1) (ws) ?_ (O8 (by rfl) ⟨rfl, rfl, rfl, rfl, rfl, rfl, rfl, trivial⟩) ?_
 ·exact ⟨Nat.zero_le _, by rw [List.take_zero]; exact (List.append_nil _).symm⟩
 intro q u a hinv
 refine A3 (A2 ?_)
 refine A1 rfl (J8 rfl (A0 rfl) (A0 rfl)) ?_
 refine A4 (A3 ?_)
 refine B9 (A0 rfl) ?_ ?_
 ·intro h33
  have k33 := of_decide_eq_true h33; try simp only [A8] at k33
  have hlt : q < s.Held.length := by omega
  obtain ⟨h, hx⟩ := get_some hlt
  obtain ⟨g1, g2, g3, g4, g5⟩ := Y1 hs2 hx
  have hwt := AW9 (l := s.Held.take q)
  have hwt2 := AQ3 (f := THeld.size) (l := s.Held) q
  have hal9 : a.length ≤ 800000 := by (rw [hinv.2, J6]; omega)
  refine C3 (A3 (C7 (A3 (A2 ?_))))
  refine A1 rfl (I2 rfl E4 D5 (A0 rfl) (A0 rfl) hx (by first | omega | (simp only [C8, A7, szR] at *; omega))) ?_
  refine A1 rfl (K6 rfl (A0 rfl) K3 D5) ?_
  refine F5 rfl rfl rfl rfl Tryz.zeroValue130 rfl ?_
  intro b10
  refine D2 0 rfl rfl rfl (A0 rfl) (A0 rfl) (D6 _) rfl D5 rfl ?_
  refine A4 (A2 ?_)
  refine A5 rfl ?_
  refine A1 rfl (B1 4 rfl G2 rfl L0 (A0 rfl) rfl) ?_
  refine A1 rfl (B0 0 rfl (A0 rfl) rfl M3 rfl) ?_
  refine L2 (by' := 40) 1 rfl rfl rfl rfl D1 Tryz.type79 rfl rfl rfl rfl rfl rfl (A0 rfl) (A0 rfl) rfl (by simp only [J6, A8]; omega) ?_
  intro v39_2
  refine B3 rfl ?_
  refine A4 (A2 ?_)
  refine A1 rfl (G0 rfl (A0 rfl) B4 (by first | omega | (simp only [C8, A7, szR] at *; omega))) ?_
  refine A5 rfl ?_
  refine A4 ?_
  refine Z0 q u a (q + 1) (v39_2) (a ++ h.Writes) ?_ ?_ (Le.trans (F8 [0, 0] rfl) (K0 1 (by (rw [List.map_append]; rfl)) ⟨rfl, rfl, rfl, rfl, rfl, rfl, rfl, trivial⟩))
  ·exact ⟨by omega, by rw [hinv.2, Au4 hx, List.append_assoc]⟩
  omega
 intro h33
 have k33 := of_decide_eq_false h33; try simp only [A8] at k33
 have hge : s.Held.length ≤ q := by omega
 have ha9 : a = al := by (rw [hinv.2, List.take_of_length_le hge, hal])
 subst ha9
 refine G1 ?_
 refine A3 (A3 (A2 ?_))
 refine A5 rfl ?_
 refine A1 rfl (W4 0 rfl D1 (A0 rfl) rfl) ?_
 refine A1 rfl (B8 rfl B4) ?_
 refine A4 (C7 ?_)
 refine AWP.le (F8 [1] rfl) ?_
 refine d7 [(2, _), (41, _), (42, _)] _ (fun (r : Nat) (v2 : Value) (ks : List Str) => r ≤ a.length ∧ a.all p = (a.drop r).all p ∧ ks = putAllS (cKeys s.Cells ++ wKeys (a.take r)) []) (fun (r : Nat) (v2 : Value) (ks : List Str) => [.arr v2 9 1 (ks.map fun s => [AV.str s])]) (fun (r : Nat) (v2 : Value) (ks : List Str) => [(5, AV.is v2), (43, AV.int r)]) (fun (r : Nat) (v2 : Value) (ks : List Str) => a.length - r) (0) (v) (putAllS (cKeys s.Cells) []) ?_ (O8 (by rfl) ⟨rfl, rfl, rfl, rfl, rfl, trivial⟩) ?_
 ·exact ⟨Nat.zero_le _, rfl, by rw [List.take_zero]; exact congrArg (fun z => putAllS z []) (List.append_nil _).symm⟩
 intro r v2 ks hinv
 refine A3 (A2 ?_)
 refine A1 rfl (J8 rfl (A0 rfl) (A0 rfl)) ?_
 refine A4 (A3 ?_)
 refine B9 (A0 rfl) ?_ ?_
 ·intro h44
  have k44 := of_decide_eq_true h44; try simp only [A8] at k44
  have hlt : r < a.length := by omega
  obtain ⟨w, hx⟩ := get_some hlt
  obtain ⟨c, hc0⟩ := at_some s.Cells w.Key
  have hfu := fullC_at (l := s.Cells) (k := w.Key) (c := c) (fun h9 => (hc0 h9).2)
  have hpl := r4 (cKeys s.Cells ++ wKeys (a.take r)) []
  unfold cKeys wKeys at hpl
  simp only [J6, A8, D9, N4] at hpl
  refine C3 (A3 (C7 (A3 (A2 ?_))))
  refine A1 rfl (U7 1 rfl D1 E5 (A0 rfl) rfl (A0 rfl) (by omega) (by try simp only [A8]; omega)) ?_
  refine A1 rfl (c0 1 rfl (A0 rfl) rfl P8 E5 (by rw [Int.toNat_natCast, List.getElem?_map, hx]; rfl) (by decide)) ?_
  refine F5 rfl rfl rfl rfl Tryz.zeroValue79 rfl ?_
  intro b12
  refine D2 0 rfl rfl rfl (A0 rfl) (A0 rfl) (D6 _) rfl E5 rfl ?_
  refine A4 (A3 (A2 ?_))
  refine A5 rfl ?_
  refine A1 rfl (B1 0 rfl J3 rfl E3 (A0 rfl) rfl) ?_
  refine A1 rfl (B0 0 rfl (A0 rfl) rfl G3 rfl) ?_
  refine H9 [1] rfl rfl rfl rfl Tryz.call66 rfl (n7 v2 ks w.Key (by rw [hinv.2.2]; exact (o0 List.Pairwise.nil).1) (by rw [hinv.2.2]; unfold cKeys wKeys; omega)) (A6 (A0 rfl) (A6 (A0 rfl) C0)) rfl ?_
  intro x50 ok50
  refine B3 rfl ?_
  refine A4 (A3 (A2 ?_))
  refine A1 rfl (B1 1 rfl C4 rfl P6 (A0 rfl) rfl) ?_
  refine A1 rfl (B0 3 rfl (A0 rfl) rfl S1 rfl) ?_
  refine A1 rfl (B1 0 rfl J3 rfl E3 (A0 rfl) rfl) ?_
  refine A1 rfl (B0 1 rfl (A0 rfl) rfl G3 rfl) ?_
  refine A1 rfl (D7 rfl Tryz.call160 rfl (Am1 _ _) (A6 (A0 rfl) (A6 (A0 rfl) C0))) ?_
  refine B3 rfl ?_
  refine A4 (A3 (A2 ?_))
  refine A5 rfl ?_
  refine A1 rfl (f5 rfl (A0 rfl) B4) ?_
  refine A5 rfl ?_
  refine D3 rfl (fun hc => B1 1 rfl C4 rfl P6 (A0 rfl) rfl) ?_
  refine D3 rfl (fun hc => B0 3 rfl (A9 rfl hc) rfl S1 rfl) ?_
  refine D3 rfl (fun hc => B8 rfl (A0 rfl)) ?_
  refine D3 rfl (fun hc => n4 rfl F2 G5 (A9 rfl hc) (A9 rfl hc) (by have h9 := of_decide_eq_true hc; obtain ⟨⟨p9, e1, e2⟩, _⟩ := hc0 (by omega); have := (List.getElem?_eq_some_iff.1 e2).1; omega) (by have h9 := of_decide_eq_true hc; obtain ⟨⟨p9, e1, e2⟩, _⟩ := hc0 (by omega); rw [e1, Int.toNat_natCast, List.getElem?_map, e2]; rfl)) ?_
  refine D3 rfl (fun hc => X1 rfl I1 rfl P9 (A9 rfl hc) rfl) ?_
  refine D3 rfl (fun hc => L6 rfl (A9 rfl hc) S3 rfl) ?_
  refine D3 rfl (fun hc => F6 rfl L3 (A9 rfl hc)) ?_
  refine D3 rfl (fun hc => f5 rfl (A9 rfl hc) B4) ?_
  refine A1 rfl (J5 rfl (A0 rfl) (F7 rfl)) ?_
  refine A4 ?_
  refine B9 (A0 rfl) ?_ ?_
  ·intro h67
   have hpw : p w = false := by (rw [hp]; simp only [Bool.not_eq_false']; rw [hfu]; rw [A8] at h67; exact h67)
   have hro : room s.Cells a = false := by (unfold room; rw [show (a.all fun w => !fullC s.Cells w.Key) = false from by rw [← hp, hinv.2.1, drop_some hx, List.all_cons, hpw]; rfl]; rfl)
   refine A3 (A2 ?_)
   refine A1 rfl (B6 rfl E9) ?_
   refine A4 ?_
   refine C2 ?_
   exact I3 rfl (C1 rfl (by first | exact congrArg AV.bool hro.symm | exact congrArg AV.bool (by rw [hro]; simp only [A8]; rw [decide_eq_decide]; omega)))
  intro h67
  have hpw : p w = true := by (rw [hp]; simp only [Bool.not_eq_true']; rw [hfu]; rw [A8] at h67; exact h67)
  refine C3 (A2 ?_)
  refine A1 rfl (G0 rfl (A0 rfl) B4 (by first | omega | (simp only [C8, A7, szR] at *; omega))) ?_
  refine A5 rfl ?_
  refine A4 ?_
  refine Z0 r v2 ks (r + 1) (x50) (putS ks w.Key) ?_ ?_ (Le.trans (F8 [1, 0] rfl) (K0 1 (by rfl) ⟨rfl, rfl, rfl, rfl, rfl, trivial⟩))
  ·exact ⟨by omega, by rw [hinv.2.1, drop_some hx, List.all_cons, hpw]; rfl, by rw [hinv.2.2]; unfold wKeys; rw [List.take_add_one, hx, List.map_append, ← List.append_assoc]; exact (u9 _ _ _).symm⟩
  omega
 intro h44
 have k44 := of_decide_eq_false h44; try simp only [A8] at k44
 have hge : a.length ≤ r := by omega
 have hks := hinv.2.2
 rw [List.take_of_length_le hge] at hks
 have hro : room s.Cells a = decide (ks.length ≤ 24) := by (unfold room roomKs; rw [← hp, hinv.2.1, List.drop_eq_nil_of_le hge, Ak9, ← hks]; rfl)
 refine G1 ?_
 refine A3 (A2 ?_)
 refine A5 rfl ?_
 refine A1 rfl (W4 0 rfl C9 (A0 rfl) rfl) ?_
 refine A1 rfl (X2 rfl (A0 rfl) B4) ?_
 refine B3 rfl ?_
 refine A4 ?_
 refine C2 ?_
 exact I3 rfl (C1 rfl (by first | exact congrArg AV.bool hro.symm | exact congrArg AV.bool (by rw [hro]; simp only [A8]; rw [decide_eq_decide]; omega)))
theorem AF5 (s : TState) (n : Int) (hlen : s.Held.length ≤ 1048576) : FSpec Tryz.prog 120 [AV.agg s.cs, AV.int n] (AV.tup [AV.agg (heldFO s.Held n).1.cs, AV.bool (heldFO s.Held n).2]) := by
 obtain ⟨l, hl⟩ : ∃ l, s.Held = l := ⟨_, rfl⟩
 have hcs : s.cs = [AV.int s.Floor, AV.list 2 (s.Cells.map TCell.cs), AV.list 5 (l.map THeld.cs), AV.list 3 (s.Told.map TTold.cs)] := by rw [← hl]; rfl
 rw [hl] at hlen
 rw [hl, hcs]
 refine E2 Tryz.func120 rfl Tryz.ntmps120 rfl ?_
 refine A3 (A2 ?_)
 refine N1 rfl rfl rfl rfl (A0 rfl) ?_
 intro b2
 refine F5 rfl rfl rfl rfl Tryz.zeroValue130 rfl ?_
 intro b4
 refine A1 rfl (B6 rfl E9) ?_
 refine A4 (A3 (A3 (A2 ?_)))
 refine A1 rfl (B1 2 rfl C4 rfl G8 (A0 rfl) rfl) ?_
 refine A1 rfl (B0 1 rfl (A0 rfl) rfl M5 rfl) ?_
 refine A1 rfl (F6 rfl E4 (A0 rfl)) ?_
 refine A1 rfl (B8 rfl B4) ?_
 refine A4 (C7 ?_)
 refine J0 [(1, _), (4, _), (9, _), (10, _)] _ (fun (i : Nat) => i ≤ l.length ∧ ∀ j y, j < i → l[j]? = some y → (y.Txn == n) = false) (fun (i : Nat) => []) (fun (i : Nat) => [(11, AV.int i)]) (fun (i : Nat) => l.length - i) (0) ?_ (K2 ⟨rfl, rfl, rfl, rfl, rfl, trivial⟩) ?_
 ·exact ⟨Nat.zero_le _, fun j y hj => by omega⟩
 intro i hinv
 refine A3 (A2 ?_)
 refine A1 rfl (J8 rfl (A0 rfl) (A0 rfl)) ?_
 refine A4 (A3 ?_)
 refine B9 (A0 rfl) ?_ ?_
 ·intro h12
  have k12 := of_decide_eq_true h12; try simp only [A8] at k12
  have hlt : i < l.length := by omega
  obtain ⟨x, hx⟩ := get_some hlt
  refine C3 (A3 (C7 (A3 (A2 ?_))))
  refine A1 rfl (I2 rfl E4 D5 (A0 rfl) (A0 rfl) hx (by first | omega | (simp only [C8, A7, szR] at *; omega))) ?_
  refine A1 rfl (K6 rfl (A0 rfl) K3 D5) ?_
  refine F5 rfl rfl rfl rfl Tryz.zeroValue130 rfl ?_
  intro b7
  refine D2 0 rfl rfl rfl (A0 rfl) (A0 rfl) (D6 _) rfl D5 rfl ?_
  refine A4 (A3 (A2 ?_))
  refine A1 rfl (B1 0 rfl G2 rfl B5 (A0 rfl) rfl) ?_
  refine A1 rfl (B0 0 rfl (A0 rfl) rfl C6 rfl) ?_
  refine A5 rfl ?_
  refine A1 rfl (O1 rfl (A0 rfl) (A0 rfl)) ?_
  refine A4 ?_
  refine B9 (A0 rfl) ?_ ?_
  ·intro h18
   have k18 := M7 h18; try simp only [A8] at k18
   have he : heldFO l n = (x, true) := by (unfold heldFO findH; rw [AD7 hx h18 hinv.2])
   rw [he]
   refine A3 (A2 ?_)
   refine A1 rfl (F1 0 rfl (A0 rfl) rfl K3 D5 rfl) ?_
   refine D2 1 rfl rfl rfl (A0 rfl) (A0 rfl) (D6 _) rfl D5 rfl ?_
   refine A1 rfl (B6 rfl E9) ?_
   refine A4 ?_
   refine C2 ?_
   exact X8 rfl (by decide) (E7 (J9 (ys := _) 1 rfl rfl K3 D5 rfl) (E7 (C1 rfl (by rfl)) M0))
  intro h18
  have k18 := M6 h18; try simp only [A8] at k18
  refine C3 (A2 ?_)
  refine A1 rfl (G0 rfl (A0 rfl) B4 (by first | omega | (simp only [C8, A7, szR] at *; omega))) ?_
  refine A5 rfl ?_
  refine A4 ?_
  refine K4 i (i + 1) ?_ ?_ (X3 1 ⟨rfl, rfl, rfl, rfl, rfl, trivial⟩)
  ·exact ⟨by omega, fun j y hj hy => if hji : j < i then hinv.2 j y hji hy else (by have e : j = i := (by omega); subst e; rw [hx] at hy; injection hy with hy; subst hy; exact h18)⟩
  omega
 intro h12
 have k12 := of_decide_eq_false h12; try simp only [A8] at k12
 have hge : l.length ≤ i := by omega
 have he : heldFO l n = (zHeld, false) := by (unfold heldFO findH; rw [Ab7 fun j y hy => hinv.2 j y (Nat.lt_of_lt_of_le (List.getElem?_eq_some_iff.1 hy).1 hge) hy])
 rw [he]
 refine G1 ?_
 refine A3 (A2 ?_)
 refine A1 rfl (N5 (places := #[(0, 1), (1, 1), (2, 1), (3, 1), (4, 1)]) rfl G2 Tryz.zeroValue130 (fun w => by kernel_rfl) rfl G9 rfl) ?_
 refine D2 0 rfl rfl rfl (A0 rfl) (A0 rfl) (D6 _) rfl D5 rfl ?_
 refine A1 rfl (B6 rfl E9) ?_
 refine A4 ?_
 refine C2 ?_
 refine Y7 0 3 1 rfl rfl ?_
 refine Y7 0 4 3 rfl rfl ?_
 exact X8 rfl (by decide) (E7 (J9 (ys := _) 0 rfl rfl K3 D5 rfl) (E7 (C1 rfl (by rfl)) M0))
theorem AF6 (s : TState) (n : Int) (hlen : s.Told.length ≤ 1048576) : FSpec Tryz.prog 184 [AV.agg s.cs, AV.int n] (AV.tup [AV.agg (toldFO s.Told n).1.cs, AV.bool (toldFO s.Told n).2]) := by
 obtain ⟨l, hl⟩ : ∃ l, s.Told = l := ⟨_, rfl⟩
 have hcs : s.cs = [AV.int s.Floor, AV.list 2 (s.Cells.map TCell.cs), AV.list 5 (s.Held.map THeld.cs), AV.list 3 (l.map TTold.cs)] := by rw [← hl]; rfl
 rw [hl] at hlen
 rw [hl, hcs]
 refine E2 Tryz.func184 rfl Tryz.ntmps184 rfl ?_
 refine A3 (A2 ?_)
 refine N1 rfl rfl rfl rfl (A0 rfl) ?_
 intro b2
 refine F5 rfl rfl rfl rfl Tryz.zeroValue132 rfl ?_
 intro b4
 refine A1 rfl (B6 rfl E9) ?_
 refine A4 (A3 (A3 (A2 ?_)))
 refine A1 rfl (B1 3 rfl C4 rfl O7 (A0 rfl) rfl) ?_
 refine A1 rfl (B0 1 rfl (A0 rfl) rfl T0 rfl) ?_
 refine A1 rfl (F6 rfl I8 (A0 rfl)) ?_
 refine A1 rfl (B8 rfl B4) ?_
 refine A4 (C7 ?_)
 refine J0 [(1, _), (4, _), (9, _), (10, _)] _ (fun (i : Nat) => i ≤ l.length ∧ ∀ j y, j < i → l[j]? = some y → (y.Txn == n) = false) (fun (i : Nat) => []) (fun (i : Nat) => [(11, AV.int i)]) (fun (i : Nat) => l.length - i) (0) ?_ (K2 ⟨rfl, rfl, rfl, rfl, rfl, trivial⟩) ?_
 ·exact ⟨Nat.zero_le _, fun j y hj => by omega⟩
 intro i hinv
 refine A3 (A2 ?_)
 refine A1 rfl (J8 rfl (A0 rfl) (A0 rfl)) ?_
 refine A4 (A3 ?_)
 refine B9 (A0 rfl) ?_ ?_
 ·intro h12
  have k12 := of_decide_eq_true h12; try simp only [A8] at k12
  have hlt : i < l.length := by omega
  obtain ⟨x, hx⟩ := get_some hlt
  refine C3 (A3 (C7 (A3 (A2 ?_))))
  refine A1 rfl (I2 rfl I8 M1 (A0 rfl) (A0 rfl) hx (by first | omega | (simp only [C8, A7, szR] at *; omega))) ?_
  refine A1 rfl (K6 rfl (A0 rfl) Y9 M1) ?_
  refine F5 rfl rfl rfl rfl Tryz.zeroValue132 rfl ?_
  intro b7
  refine D2 0 rfl rfl rfl (A0 rfl) (A0 rfl) (D6 _) rfl M1 rfl ?_
  refine A4 (A3 (A2 ?_))
  refine A1 rfl (B1 0 rfl M9 rfl B5 (A0 rfl) rfl) ?_
  refine A1 rfl (B0 0 rfl (A0 rfl) rfl C6 rfl) ?_
  refine A5 rfl ?_
  refine A1 rfl (O1 rfl (A0 rfl) (A0 rfl)) ?_
  refine A4 ?_
  refine B9 (A0 rfl) ?_ ?_
  ·intro h18
   have k18 := M7 h18; try simp only [A8] at k18
   have he : toldFO l n = (x, true) := by (unfold toldFO findT; rw [AD7 hx h18 hinv.2])
   rw [he]
   refine A3 (A2 ?_)
   refine A1 rfl (F1 0 rfl (A0 rfl) rfl Y9 M1 rfl) ?_
   refine D2 1 rfl rfl rfl (A0 rfl) (A0 rfl) (D6 _) rfl M1 rfl ?_
   refine A1 rfl (B6 rfl E9) ?_
   refine A4 ?_
   refine C2 ?_
   exact X8 rfl (by decide) (E7 (J9 (ys := _) 1 rfl rfl Y9 M1 rfl) (E7 (C1 rfl (by rfl)) M0))
  intro h18
  have k18 := M6 h18; try simp only [A8] at k18
  refine C3 (A2 ?_)
  refine A1 rfl (G0 rfl (A0 rfl) B4 (by first | omega | (simp only [C8, A7, szR] at *; omega))) ?_
  refine A5 rfl ?_
  refine A4 ?_
  refine K4 i (i + 1) ?_ ?_ (X3 1 ⟨rfl, rfl, rfl, rfl, rfl, trivial⟩)
  ·exact ⟨by omega, fun j y hj hy => if hji : j < i then hinv.2 j y hji hy else (by have e : j = i := (by omega); subst e; rw [hx] at hy; injection hy with hy; subst hy; exact h18)⟩
  omega
 intro h12
 have k12 := of_decide_eq_false h12; try simp only [A8] at k12
 have hge : l.length ≤ i := by omega
 have he : toldFO l n = (zTold, false) := by (unfold toldFO findT; rw [Ab7 fun j y hy => hinv.2 j y (Nat.lt_of_lt_of_le (List.getElem?_eq_some_iff.1 hy).1 hge) hy])
 rw [he]
 refine G1 ?_
 refine A3 (A2 ?_)
 refine A1 rfl (N5 (places := #[(0, 1), (1, 1), (2, 1)]) rfl M9 Tryz.zeroValue132 (fun w => by kernel_rfl) rfl G9 rfl) ?_
 refine D2 0 rfl rfl rfl (A0 rfl) (A0 rfl) (D6 _) rfl M1 rfl ?_
 refine A1 rfl (B6 rfl E9) ?_
 refine A4 ?_
 refine C2 ?_
 exact X8 rfl (by decide) (E7 (J9 (ys := _) 0 rfl rfl Y9 M1 rfl) (E7 (C1 rfl (by rfl)) M0))
theorem Aq1 (s : TState) (ho : CellsOk s.Cells) (hs : s.size ≤ 400000) : FSpec Tryz.prog 118 [AV.agg s.cs] (AV.bool (areHeld s)) := by
 obtain ⟨hs1, hs2, hs3, hs4, hs5⟩ := X0 hs
 refine E2 Tryz.func118 rfl Tryz.ntmps118 rfl ?_
 refine A3 (A2 ?_)
 refine N1 rfl rfl rfl rfl (A0 rfl) ?_
 intro b1
 refine A1 rfl (B6 rfl E9) ?_
 refine A4 (A3 (A3 (A2 ?_)))
 refine A1 rfl (B1 2 rfl C4 rfl G8 (A0 rfl) rfl) ?_
 refine A1 rfl (B0 0 rfl (A0 rfl) rfl M5 rfl) ?_
 refine A1 rfl (F6 rfl E4 (A0 rfl)) ?_
 refine A1 rfl (B8 rfl B4) ?_
 refine A4 (C7 ?_)
 refine J0 [(1, _), (10, _), (11, _)] _ (fun (i : Nat) => i ≤ s.Held.length ∧ ∀ j, j < i → heldAt s j = true) (fun (i : Nat) => []) (fun (i : Nat) => [(12, AV.int i)]) (fun (i : Nat) => s.Held.length - i) (0) ?_ (K2 ⟨rfl, rfl, rfl, rfl, trivial⟩) ?_
 ·exact ⟨Nat.zero_le _, fun j hj => by omega⟩
 intro i hinv
 refine A3 (A2 ?_)
 refine A1 rfl (J8 rfl (A0 rfl) (A0 rfl)) ?_
 refine A4 (A3 ?_)
 refine B9 (A0 rfl) ?_ ?_
 ·intro h13
  have k13 := of_decide_eq_true h13; try simp only [A8] at k13
  have hlt : i < s.Held.length := by omega
  obtain ⟨h, hx⟩ := get_some hlt
  obtain ⟨y, hy⟩ := get_some (show i - 1 < s.Held.length by omega)
  obtain ⟨g1, g2, g3, g4, g5⟩ := Y1 hs2 hx
  have hinv0 := hinv
  refine C3 (A3 (C7 (A3 (A2 ?_))))
  refine A5 rfl ?_
  refine A1 rfl (I2 rfl E4 D5 (A0 rfl) (A0 rfl) hx (by first | omega | (simp only [C8, A7, szR] at *; omega))) ?_
  refine A1 rfl (K6 rfl (A0 rfl) K3 D5) ?_
  refine F5 rfl rfl rfl rfl Tryz.zeroValue130 rfl ?_
  intro b4
  refine B3 rfl ?_
  refine D2 0 rfl rfl rfl (A0 rfl) (A0 rfl) (D6 _) rfl D5 rfl ?_
  refine A4 (A3 (A3 ?_))
  refine L1 (by kernel_rfl) (by kernel_rfl) rfl ?_
  refine B2 rfl rfl (F1 0 rfl (A0 rfl) rfl K3 D5 rfl) ?_
  refine B2 rfl rfl (D7 rfl Tryz.call91 rfl (AC2 _) (A6 (A0 rfl) C0)) ?_
  refine B2 rfl rfl (D7 rfl Tryz.call73 rfl (AI8 _ (by first | assumption | omega)) (A6 (A0 rfl) C0)) ?_
  refine B2 rfl rfl (M2 rfl (A0 rfl)) ?_
  refine B2 rfl rfl (B8 rfl (A0 rfl)) ?_
  refine E0 rfl (J1 rfl rfl rfl) (fun hc => B1 1 rfl G2 rfl B5 (A0 rfl) rfl) ?_
  refine E0 rfl (J1 rfl rfl rfl) (fun hc => B0 0 rfl (A9 rfl hc) rfl C6 rfl) ?_
  refine E0 rfl (J1 rfl rfl rfl) (fun hc => B1 0 rfl C4 rfl B5 (A0 rfl) rfl) ?_
  refine E0 rfl (J1 rfl rfl rfl) (fun hc => B0 1 rfl (A9 rfl hc) rfl C6 rfl) ?_
  refine E0 rfl (J1 rfl rfl rfl) (fun hc => R8 rfl (A9 rfl hc) (A9 rfl hc)) ?_
  refine B2 rfl rfl (Q8 rfl (A0 rfl) (F7 rfl)) ?_
  refine B2 rfl rfl (B8 rfl (A0 rfl)) ?_
  refine E0 rfl (J1 rfl rfl rfl) (fun hc => B8 rfl (A0 rfl)) ?_
  refine E0 rfl (J1 rfl rfl rfl) (fun hc => R8 rfl (A9 rfl hc) B4) ?_
  refine E0 rfl (J1 rfl rfl rfl) (fun hc => B8 rfl (A9 rfl hc)) ?_
  refine E0 rfl (E6 rfl rfl rfl) (fun hc => B1 2 rfl C4 rfl G8 (A0 rfl) rfl) ?_
  refine E0 rfl (E6 rfl rfl rfl) (fun hc => B0 1 rfl (A9 rfl hc) rfl M5 rfl) ?_
  refine E0 rfl (E6 rfl rfl rfl) (fun hc => B8 rfl (A0 rfl)) ?_
  refine E0 rfl (E6 rfl rfl rfl) (fun hc => R7 rfl (A9 rfl hc) B4 (by first | omega | ((try simp only [C8, A7, szR] at *); omega) | (have hc2 := hc; simp only [Q0, beq_iff_eq, bne_iff_ne, A8, D9] at hc2; omega))) ?_
  refine E0 rfl (E6 rfl rfl rfl) (fun hc => I2 rfl E4 D5 (A9 rfl hc) (A9 rfl hc) hy (by first | omega | ((try simp only [C8, A7, szR] at *); omega) | (have hc2 := hc; simp only [Q0, beq_iff_eq, bne_iff_ne, A8, D9] at hc2; omega))) ?_
  refine E0 rfl (E6 rfl rfl rfl) (fun hc => X1 rfl G2 rfl B5 (A9 rfl hc) rfl) ?_
  refine E0 rfl (E6 rfl rfl rfl) (fun hc => L6 rfl (A9 rfl hc) C6 rfl) ?_
  refine E0 rfl (E6 rfl rfl rfl) (fun hc => B1 0 rfl G2 rfl B5 (A0 rfl) rfl) ?_
  refine E0 rfl (E6 rfl rfl rfl) (fun hc => B0 0 rfl (A9 rfl hc) rfl C6 rfl) ?_
  refine E0 rfl (E6 rfl rfl rfl) (fun hc => f5 rfl (A9 rfl hc) (A9 rfl hc)) ?_
  refine E0 rfl (J1 rfl rfl rfl) (fun hc => J5 rfl (A9 rfl hc) (T1 rfl hc)) ?_
  refine B2 rfl rfl (Q8 rfl (A0 rfl) (F7 rfl)) ?_
  refine P7 ?_
  refine B9 (A0 rfl) ?_ ?_
  ·intro h43
   have hfin : areHeld s = false := by (unfold areHeld; rw [d9 hlt (by rw [AD6 hx hy, h43]; rfl)]; rfl)
   refine A3 (A2 ?_)
   refine A1 rfl (B6 rfl E9) ?_
   refine A4 ?_
   refine C2 ?_
   exact I3 rfl (C1 rfl (by first | exact congrArg AV.bool hfin.symm | exact congrArg AV.bool (by unfold areHeld; rw [hall, Bool.true_and, List.nil_append, A8]; congr 1; rw [decide_eq_decide]; omega)))
  intro h43
  refine C3 (A3 (A3 (A2 ?_)))
  refine A1 rfl (B1 2 rfl C4 rfl G8 (A0 rfl) rfl) ?_
  refine A1 rfl (B0 1 rfl (A0 rfl) rfl M5 rfl) ?_
  refine A5 rfl ?_
  refine A1 rfl (m8 rfl E4 D5 (A0 rfl) (A0 rfl) (by first | omega | (simp only [C8, A7, szR] at *; omega)) (by first | omega | (simp only [C8, A7, szR] at *; omega))) ?_
  refine A1 rfl (F6 rfl E4 (A0 rfl)) ?_
  refine A1 rfl (B8 rfl B4) ?_
  refine A4 (C7 ?_)
  refine J0 [(1, _), (3, _), (4, _), (10, _), (11, _), (12, _), (13, _), (14, _), (15, _), (16, _), (17, _), (18, _), (19, _), (20, _), (21, _), (27, _), (28, _), (43, _), (44, _), (45, _), (46, _), (47, _), (48, _)] _ (fun (q : Nat) => q ≤ (s.Held.take i).length ∧ ((s.Held.take i).all fun g => apart g h.Reads h.Writes) = (((s.Held.take i).drop q).all fun g => apart g h.Reads h.Writes)) (fun (q : Nat) => []) (fun (q : Nat) => [(49, AV.int q)]) (fun (q : Nat) => (s.Held.take i).length - q) (0) ?_ (K2 ⟨rfl, rfl, rfl, rfl, rfl, rfl, rfl, rfl, rfl, rfl, rfl, rfl, rfl, rfl, rfl, rfl, rfl, rfl, rfl, rfl, rfl, rfl, rfl, rfl, trivial⟩) ?_
  ·exact ⟨Nat.zero_le _, rfl⟩
  intro q hinv
  refine A3 (A2 ?_)
  refine A1 rfl (J8 rfl (A0 rfl) (A0 rfl)) ?_
  refine A4 (A3 ?_)
  refine B9 (A0 rfl) ?_ ?_
  ·intro h50
   have k50 := of_decide_eq_true h50; try simp only [A8] at k50
   have hlt2 : q < (s.Held.take i).length := by (simp only [D9, A8, Int.toNat_natCast] at k50 ⊢; omega)
   obtain ⟨k, hx2⟩ := get_some hlt2
   refine C3 (A3 (C7 (A3 (A2 ?_))))
   refine A1 rfl (I2 rfl E4 D5 (A0 rfl) (A0 rfl) hx2 (by first | omega | (simp only [C8, A7, szR] at *; omega))) ?_
   refine A1 rfl (K6 rfl (A0 rfl) K3 D5) ?_
   refine F5 rfl rfl rfl rfl Tryz.zeroValue130 rfl ?_
   intro b6
   refine D2 0 rfl rfl rfl (A0 rfl) (A0 rfl) (D6 _) rfl D5 rfl ?_
   refine A4 (A3 (A2 ?_))
   refine A1 rfl (F1 0 rfl (A0 rfl) rfl K3 D5 rfl) ?_
   refine A1 rfl (B1 3 rfl G2 rfl H5 (A0 rfl) rfl) ?_
   refine A1 rfl (B0 1 rfl (A0 rfl) rfl K7 rfl) ?_
   refine A1 rfl (B1 4 rfl G2 rfl L0 (A0 rfl) rfl) ?_
   refine A1 rfl (B0 1 rfl (A0 rfl) rfl M3 rfl) ?_
   refine A1 rfl (D7 rfl Tryz.call158 rfl (apart_spec _ _ _) (A6 (A0 rfl) (A6 (A0 rfl) (A6 (A0 rfl) C0)))) ?_
   refine A1 rfl (M2 rfl (A0 rfl)) ?_
   refine A4 ?_
   refine B9 (A0 rfl) ?_ ?_
   ·intro h59
    have hfin : areHeld s = false := by (unfold areHeld; rw [d9 hlt (by rw [AD6 hx hy, hinv.2, drop_some hx2, List.all_cons, show apart k h.Reads h.Writes = false by simpa using h59]; simp)]; rfl)
    refine A3 (A2 ?_)
    refine A1 rfl (B6 rfl E9) ?_
    refine A4 ?_
    refine C2 ?_
    exact I3 rfl (C1 rfl (by first | exact congrArg AV.bool hfin.symm | exact congrArg AV.bool (by unfold areHeld; rw [hall, Bool.true_and, List.nil_append, A8]; congr 1; rw [decide_eq_decide]; omega)))
   intro h59
   refine C3 (A2 ?_)
   refine A1 rfl (G0 rfl (A0 rfl) B4 (by first | omega | (simp only [C8, A7, szR] at *; omega))) ?_
   refine A5 rfl ?_
   refine A4 ?_
   refine K4 q (q + 1) ?_ ?_ (X3 1 ⟨rfl, rfl, rfl, rfl, rfl, rfl, rfl, rfl, rfl, rfl, rfl, rfl, rfl, rfl, rfl, rfl, rfl, rfl, rfl, rfl, rfl, rfl, rfl, rfl, trivial⟩)
   ·exact ⟨by omega, by rw [hinv.2, drop_some hx2, List.all_cons, show apart k h.Reads h.Writes = true by simpa using h59]; rfl⟩
   omega
  intro h50
  have k50 := of_decide_eq_false h50; try simp only [A8] at k50
  have hge2 : (s.Held.take i).length ≤ q := by (simp only [D9, A8, Int.toNat_natCast] at k50 ⊢; omega)
  have hap : ((s.Held.take i).all fun g => apart g h.Reads h.Writes) = true := by (rw [hinv.2, List.drop_eq_nil_of_le hge2]; rfl)
  refine G1 ?_
  refine A3 (A2 ?_)
  refine A1 rfl (B1 4 rfl G2 rfl L0 (A0 rfl) rfl) ?_
  refine A1 rfl (B0 0 rfl (A0 rfl) rfl M3 rfl) ?_
  refine A1 rfl (F6 rfl D1 (A0 rfl)) ?_
  refine A1 rfl (B8 rfl B4) ?_
  refine A4 (C7 ?_)
  refine J0 [(1, _), (3, _), (4, _), (10, _), (11, _), (12, _), (13, _), (14, _), (15, _), (16, _), (17, _), (18, _), (19, _), (20, _), (21, _), (27, _), (28, _), (43, _), (44, _), (45, _), (46, _), (47, _), (48, _), (49, _), (50, _), (61, _), (62, _), (63, _)] _ (fun (r : Nat) => r ≤ h.Writes.length ∧ (h.Writes.all fun w => decide (lastTime s.Cells w.Key < h.Time)) = ((h.Writes.drop r).all fun w => decide (lastTime s.Cells w.Key < h.Time))) (fun (r : Nat) => []) (fun (r : Nat) => [(64, AV.int r)]) (fun (r : Nat) => h.Writes.length - r) (0) ?_ (K2 ⟨rfl, rfl, rfl, rfl, rfl, rfl, rfl, rfl, rfl, rfl, rfl, rfl, rfl, rfl, rfl, rfl, rfl, rfl, rfl, rfl, rfl, rfl, rfl, rfl, rfl, rfl, rfl, rfl, rfl, trivial⟩) ?_
  ·exact ⟨Nat.zero_le _, rfl⟩
  intro r hinv
  refine A3 (A2 ?_)
  refine A1 rfl (J8 rfl (A0 rfl) (A0 rfl)) ?_
  refine A4 (A3 ?_)
  refine B9 (A0 rfl) ?_ ?_
  ·intro h65
   have k65 := of_decide_eq_true h65; try simp only [A8] at k65
   have hlt3 : r < h.Writes.length := by omega
   obtain ⟨w, hw⟩ := get_some hlt3
   refine C3 (A3 (C7 (A3 (A2 ?_))))
   refine A1 rfl (I2 rfl D1 E5 (A0 rfl) (A0 rfl) hw (by first | omega | (simp only [C8, A7, szR] at *; omega))) ?_
   refine A1 rfl (K6 rfl (A0 rfl) P8 E5) ?_
   refine F5 rfl rfl rfl rfl Tryz.zeroValue79 rfl ?_
   intro b8
   refine D2 0 rfl rfl rfl (A0 rfl) (A0 rfl) (D6 _) rfl E5 rfl ?_
   refine A4 (A3 ?_)
   refine L1 (by kernel_rfl) (by kernel_rfl) rfl ?_
   refine B2 rfl rfl (B1 1 rfl C4 rfl P6 (A0 rfl) rfl) ?_
   refine B2 rfl rfl (B0 2 rfl (A0 rfl) rfl S1 rfl) ?_
   refine B2 rfl rfl (B1 0 rfl J3 rfl E3 (A0 rfl) rfl) ?_
   refine B2 rfl rfl (B0 0 rfl (A0 rfl) rfl G3 rfl) ?_
   refine B2 rfl rfl (D7 rfl Tryz.call119 rfl (AI6 _ _ (by first | assumption | exact a6 (by rw [e9]; assumption)) (by first | assumption | omega)) (A6 (A0 rfl) (A6 (A0 rfl) C0))) ?_
   refine B2 rfl rfl (B1 1 rfl G2 rfl B5 (A0 rfl) rfl) ?_
   refine B2 rfl rfl (B0 1 rfl (A0 rfl) rfl C6 rfl) ?_
   refine B2 rfl rfl (f5 rfl (A0 rfl) (A0 rfl)) ?_
   refine P7 ?_
   refine B9 (A0 rfl) ?_ ?_
   ·intro h75
    have k75 := of_decide_eq_true h75; try simp only [A8] at k75
    have hfin : areHeld s = false := by (unfold areHeld; rw [d9 hlt (by rw [AD6 hx hy, hinv.2, drop_some hw, List.all_cons, decide_eq_false (show ¬ lastTime s.Cells w.Key < h.Time by omega)]; simp)]; rfl)
    refine A3 (A2 ?_)
    refine A1 rfl (B6 rfl E9) ?_
    refine A4 ?_
    refine C2 ?_
    exact I3 rfl (C1 rfl (by first | exact congrArg AV.bool hfin.symm | exact congrArg AV.bool (by unfold areHeld; rw [hall, Bool.true_and, List.nil_append, A8]; congr 1; rw [decide_eq_decide]; omega)))
   intro h75
   have k75 := of_decide_eq_false h75; try simp only [A8] at k75
   refine C3 (A2 ?_)
   refine A1 rfl (G0 rfl (A0 rfl) B4 (by first | omega | (simp only [C8, A7, szR] at *; omega))) ?_
   refine A5 rfl ?_
   refine A4 ?_
   refine K4 r (r + 1) ?_ ?_ (X3 1 ⟨rfl, rfl, rfl, rfl, rfl, rfl, rfl, rfl, rfl, rfl, rfl, rfl, rfl, rfl, rfl, rfl, rfl, rfl, rfl, rfl, rfl, rfl, rfl, rfl, rfl, rfl, rfl, rfl, rfl, trivial⟩)
   ·exact ⟨by omega, by rw [hinv.2, drop_some hw, List.all_cons, decide_eq_true (show lastTime s.Cells w.Key < h.Time by omega)]; rfl⟩
   omega
  intro h65
  have k65 := of_decide_eq_false h65; try simp only [A8] at k65
  have hge3 : h.Writes.length ≤ r := by omega
  have hlw : (h.Writes.all fun w => decide (lastTime s.Cells w.Key < h.Time)) = true := by (rw [hinv.2, List.drop_eq_nil_of_le hge3]; rfl)
  refine G1 ?_
  refine A2 ?_
  refine A1 rfl (G0 rfl (A0 rfl) B4 (by first | omega | (simp only [C8, A7, szR] at *; omega))) ?_
  refine A5 rfl ?_
  refine A4 ?_
  refine K4 i (i + 1) ?_ ?_ (X3 1 ⟨rfl, rfl, rfl, rfl, trivial⟩)
  ·exact ⟨by omega, fun j hj => if hji : j < i then hinv0.2 j hji else (by have e : j = i := (by omega); subst e; rw [AD6 hx hy, h43, hap, hlw]; rfl)⟩
  omega
 intro h13
 have k13 := of_decide_eq_false h13; try simp only [A8] at k13
 have hge : s.Held.length ≤ i := by omega
 have hall : allB s.Held.length (heldAt s) = true := t1.2 fun j hj => hinv.2 j (by omega)
 refine G1 ?_
 refine A3 (A2 ?_)
 refine A1 rfl (B1 2 rfl C4 rfl G8 (A0 rfl) rfl) ?_
 refine A1 rfl (B0 0 rfl (A0 rfl) rfl M5 rfl) ?_
 refine A1 rfl (F6 rfl E4 (A0 rfl)) ?_
 refine A1 rfl (X2 rfl (A0 rfl) B4) ?_
 refine A5 rfl ?_
 refine D3 rfl (fun hc => F1 0 rfl (A0 rfl) rfl F0 C5 rfl) ?_
 refine D3 rfl (fun hc => D7 rfl Tryz.call159 rfl (Af5 s [] hs (by decide)) (A6 (A9 rfl hc) (A6 a8 C0))) ?_
 refine A1 rfl (J5 rfl (A0 rfl) (F7 rfl)) ?_
 refine B3 rfl ?_
 refine A4 ?_
 refine C2 ?_
 exact I3 rfl (C1 rfl (by first | exact congrArg AV.bool hfin.symm | exact congrArg AV.bool (by unfold areHeld; rw [hall, Bool.true_and, List.nil_append, A8]; congr 1; rw [decide_eq_decide]; omega)))
theorem w5 (s : TState) (hs : s.size ≤ 400000) : FSpec Tryz.prog 81 [AV.agg s.cs] (AV.bool (goodState s)) := by
 obtain ⟨hs1, hs2, hs3, hs4, hs5⟩ := X0 hs
 refine E2 Tryz.func81 rfl Tryz.ntmps81 rfl ?_
 refine A3 (A2 ?_)
 refine N1 rfl rfl rfl rfl (A0 rfl) ?_
 intro b1
 refine A1 rfl (B6 rfl E9) ?_
 refine A4 (A3 (A3 (A2 ?_)))
 refine A1 rfl (B1 0 rfl C4 rfl B5 (A0 rfl) rfl) ?_
 refine A1 rfl (B0 0 rfl (A0 rfl) rfl C6 rfl) ?_
 refine A1 rfl (D7 rfl Tryz.call43 rfl (AA9 _) (A6 (A0 rfl) C0)) ?_
 refine A1 rfl (M2 rfl (A0 rfl)) ?_
 refine A5 rfl ?_
 refine F3 rfl (fun hc => B1 1 rfl C4 rfl P6 (A0 rfl) rfl) ?_
 refine F3 rfl (fun hc => B0 0 rfl (A9 rfl hc) rfl S1 rfl) ?_
 refine F3 rfl (fun hc => D7 rfl Tryz.call117 rfl (AY5 _ (by first | assumption | omega)) (A6 (A9 rfl hc) C0)) ?_
 refine F3 rfl (fun hc => M2 rfl (A9 rfl hc)) ?_
 refine A1 rfl (Q8 rfl (A0 rfl) (F7 rfl)) ?_
 refine A5 rfl ?_
 refine F3 rfl (fun hc => F1 0 rfl (A0 rfl) rfl F0 C5 rfl) ?_
 refine F3 rfl (fun hc => D7 rfl Tryz.call118 rfl (Aq1 s (a6 (by have h9 := hc; simp at h9; rw [e9]; exact h9.2)) hs) (A6 (A9 rfl hc) C0)) ?_
 refine F3 rfl (fun hc => M2 rfl (A9 rfl hc)) ?_
 refine A1 rfl (Q8 rfl (A0 rfl) (F7 rfl)) ?_
 refine A5 rfl ?_
 refine F3 rfl (fun hc => B1 3 rfl C4 rfl O7 (A0 rfl) rfl) ?_
 refine F3 rfl (fun hc => B0 0 rfl (A9 rfl hc) rfl T0 rfl) ?_
 refine F3 rfl (fun hc => F6 rfl I8 (A9 rfl hc)) ?_
 refine F3 rfl (fun hc => R8 rfl (A9 rfl hc) B4) ?_
 refine A1 rfl (Q8 rfl (A0 rfl) (F7 rfl)) ?_
 refine A4 ?_
 refine B9 (A0 rfl) ?_ ?_
 ·intro h29
  have hfin : goodState s = false := by (unfold goodState; simp only [Bool.or_eq_true, Bool.not_eq_true', decide_eq_true_eq, A8] at h29; rcases h29 with ((h | h) | h) | h; (rw [h]; rfl); (rw [e9, h]; simp); (rw [h]; simp); (rw [decide_eq_false (show ¬ s.Told.length ≤ 60 by omega)]; simp))
  refine A3 (A2 ?_)
  refine A1 rfl (B6 rfl E9) ?_
  refine A4 ?_
  refine C2 ?_
  exact I3 rfl (C1 rfl (by exact congrArg AV.bool hfin.symm))
 intro h29
 simp only [Bool.or_eq_false_iff, Bool.not_eq_false', decide_eq_false_iff_not, A8] at h29
 obtain ⟨⟨⟨q1, q2⟩, q3⟩, q4⟩ := h29
 have hco := a6 (by rw [e9]; exact q2)
 have hgs : goodState s = ((s.Cells.all fun c => decide (lastTime s.Cells c.Key ≤ s.Floor)) && allB s.Told.length (toldAt s)) := by (unfold goodState; rw [q1, e9, q2, q3, decide_eq_true (show s.Told.length ≤ 60 by omega)]; simp)
 refine C3 (A3 (A3 (A2 ?_)))
 refine A1 rfl (B1 1 rfl C4 rfl P6 (A0 rfl) rfl) ?_
 refine A1 rfl (B0 0 rfl (A0 rfl) rfl S1 rfl) ?_
 refine A1 rfl (F6 rfl F2 (A0 rfl)) ?_
 refine A1 rfl (B8 rfl B4) ?_
 refine A4 (C7 ?_)
 refine J0 [(1, _), (31, _), (32, _)] _ (fun (i : Nat) => i ≤ s.Cells.length ∧ (s.Cells.all fun c => decide (lastTime s.Cells c.Key ≤ s.Floor)) = ((s.Cells.drop i).all fun c => decide (lastTime s.Cells c.Key ≤ s.Floor))) (fun (i : Nat) => []) (fun (i : Nat) => [(33, AV.int i)]) (fun (i : Nat) => s.Cells.length - i) (0) ?_ (K2 ⟨rfl, rfl, rfl, rfl, trivial⟩) ?_
 ·exact ⟨Nat.zero_le _, rfl⟩
 intro i hinv
 refine A3 (A2 ?_)
 refine A1 rfl (J8 rfl (A0 rfl) (A0 rfl)) ?_
 refine A4 (A3 ?_)
 refine B9 (A0 rfl) ?_ ?_
 ·intro h34
  have k34 := of_decide_eq_true h34; try simp only [A8] at k34
  have hlt : i < s.Cells.length := by omega
  obtain ⟨c, hx⟩ := get_some hlt
  refine C3 (A3 (C7 (A3 (A2 ?_))))
  refine A1 rfl (I2 rfl F2 G5 (A0 rfl) (A0 rfl) hx (by first | omega | (simp only [C8, A7, szR] at *; omega))) ?_
  refine A1 rfl (K6 rfl (A0 rfl) U8 G5) ?_
  refine F5 rfl rfl rfl rfl Tryz.zeroValue115 rfl ?_
  intro b4
  refine D2 0 rfl rfl rfl (A0 rfl) (A0 rfl) (D6 _) rfl G5 rfl ?_
  refine A4 (A3 ?_)
  refine L1 (by kernel_rfl) (by kernel_rfl) rfl ?_
  refine B2 rfl rfl (B1 1 rfl C4 rfl P6 (A0 rfl) rfl) ?_
  refine B2 rfl rfl (B0 1 rfl (A0 rfl) rfl S1 rfl) ?_
  refine B2 rfl rfl (B1 0 rfl I1 rfl E3 (A0 rfl) rfl) ?_
  refine B2 rfl rfl (B0 0 rfl (A0 rfl) rfl G3 rfl) ?_
  refine B2 rfl rfl (D7 rfl Tryz.call119 rfl (AI6 _ _ (by first | assumption | exact a6 (by rw [e9]; assumption)) (by first | assumption | omega)) (A6 (A0 rfl) (A6 (A0 rfl) C0))) ?_
  refine B2 rfl rfl (B1 0 rfl C4 rfl B5 (A0 rfl) rfl) ?_
  refine B2 rfl rfl (B0 1 rfl (A0 rfl) rfl C6 rfl) ?_
  refine B2 rfl rfl (R8 rfl (A0 rfl) (A0 rfl)) ?_
  refine P7 ?_
  refine B9 (A0 rfl) ?_ ?_
  ·intro h44
   have k44 := of_decide_eq_true h44; try simp only [A8] at k44
   have hfin : goodState s = false := by (rw [hgs, hinv.2, drop_some hx, List.all_cons, decide_eq_false (show ¬ lastTime s.Cells c.Key ≤ s.Floor by omega)]; rfl)
   refine A3 (A2 ?_)
   refine A1 rfl (B6 rfl E9) ?_
   refine A4 ?_
   refine C2 ?_
   exact I3 rfl (C1 rfl (by exact congrArg AV.bool hfin.symm))
  intro h44
  have k44 := of_decide_eq_false h44; try simp only [A8] at k44
  refine C3 (A2 ?_)
  refine A1 rfl (G0 rfl (A0 rfl) B4 (by first | omega | (simp only [C8, A7, szR] at *; omega))) ?_
  refine A5 rfl ?_
  refine A4 ?_
  refine K4 i (i + 1) ?_ ?_ (X3 1 ⟨rfl, rfl, rfl, rfl, trivial⟩)
  ·exact ⟨by omega, by rw [hinv.2, drop_some hx, List.all_cons, decide_eq_true (show lastTime s.Cells c.Key ≤ s.Floor by omega)]; rfl⟩
  omega
 intro h34
 have k34 := of_decide_eq_false h34; try simp only [A8] at k34
 have hge : s.Cells.length ≤ i := by omega
 have hgs2 : goodState s = allB s.Told.length (toldAt s) := by (rw [hgs, hinv.2, List.drop_eq_nil_of_le hge]; rfl)
 refine G1 ?_
 refine A3 (A3 (A2 ?_))
 refine A1 rfl (B1 3 rfl C4 rfl O7 (A0 rfl) rfl) ?_
 refine A1 rfl (B0 0 rfl (A0 rfl) rfl T0 rfl) ?_
 refine A1 rfl (F6 rfl I8 (A0 rfl)) ?_
 refine A1 rfl (B8 rfl B4) ?_
 refine A4 (C7 ?_)
 refine J0 [(1, _), (47, _), (48, _)] _ (fun (q : Nat) => q ≤ s.Told.length ∧ ∀ j, j < q → toldAt s j = true) (fun (q : Nat) => []) (fun (q : Nat) => [(49, AV.int q)]) (fun (q : Nat) => s.Told.length - q) (0) ?_ (K2 ⟨rfl, rfl, rfl, rfl, trivial⟩) ?_
 ·exact ⟨Nat.zero_le _, fun j hj => by omega⟩
 intro q hinv
 refine A3 (A2 ?_)
 refine A1 rfl (J8 rfl (A0 rfl) (A0 rfl)) ?_
 refine A4 (A3 ?_)
 refine B9 (A0 rfl) ?_ ?_
 ·intro h50
  have k50 := of_decide_eq_true h50; try simp only [A8] at k50
  have hlt : q < s.Told.length := by omega
  obtain ⟨t, hx⟩ := get_some hlt
  obtain ⟨y, hy⟩ := get_some (show q - 1 < s.Told.length by omega)
  refine C3 (A3 (C7 (A3 (A2 ?_))))
  refine A5 rfl ?_
  refine A1 rfl (I2 rfl I8 M1 (A0 rfl) (A0 rfl) hx (by first | omega | (simp only [C8, A7, szR] at *; omega))) ?_
  refine A1 rfl (K6 rfl (A0 rfl) Y9 M1) ?_
  refine F5 rfl rfl rfl rfl Tryz.zeroValue132 rfl ?_
  intro b6
  refine B3 rfl ?_
  refine D2 0 rfl rfl rfl (A0 rfl) (A0 rfl) (D6 _) rfl M1 rfl ?_
  refine A4 (A3 (A3 ?_))
  refine L1 (by kernel_rfl) (by kernel_rfl) rfl ?_
  refine B2 rfl rfl (B1 0 rfl M9 rfl B5 (A0 rfl) rfl) ?_
  refine B2 rfl rfl (B0 0 rfl (A0 rfl) rfl C6 rfl) ?_
  refine B2 rfl rfl (D7 rfl Tryz.call63 rfl (f0 _ _ _) (A6 (A0 rfl) (A6 B4 (A6 B4 C0)))) ?_
  refine B2 rfl rfl (M2 rfl (A0 rfl)) ?_
  refine B2 rfl rfl (B8 rfl (A0 rfl)) ?_
  refine E0 rfl (J1 rfl rfl rfl) (fun hc => B8 rfl (A0 rfl)) ?_
  refine E0 rfl (J1 rfl rfl rfl) (fun hc => R8 rfl (A9 rfl hc) B4) ?_
  refine E0 rfl (J1 rfl rfl rfl) (fun hc => B8 rfl (A9 rfl hc)) ?_
  refine E0 rfl (E6 rfl rfl rfl) (fun hc => B1 3 rfl C4 rfl O7 (A0 rfl) rfl) ?_
  refine E0 rfl (E6 rfl rfl rfl) (fun hc => B0 1 rfl (A9 rfl hc) rfl T0 rfl) ?_
  refine E0 rfl (E6 rfl rfl rfl) (fun hc => B8 rfl (A0 rfl)) ?_
  refine E0 rfl (E6 rfl rfl rfl) (fun hc => R7 rfl (A9 rfl hc) B4 (by first | omega | ((try simp only [C8, A7, szR] at *); omega) | (have hc2 := hc; simp only [Q0, beq_iff_eq, bne_iff_ne, A8, D9] at hc2; omega))) ?_
  refine E0 rfl (E6 rfl rfl rfl) (fun hc => I2 rfl I8 M1 (A9 rfl hc) (A9 rfl hc) hy (by first | omega | ((try simp only [C8, A7, szR] at *); omega) | (have hc2 := hc; simp only [Q0, beq_iff_eq, bne_iff_ne, A8, D9] at hc2; omega))) ?_
  refine E0 rfl (E6 rfl rfl rfl) (fun hc => X1 rfl M9 rfl B5 (A9 rfl hc) rfl) ?_
  refine E0 rfl (E6 rfl rfl rfl) (fun hc => L6 rfl (A9 rfl hc) C6 rfl) ?_
  refine E0 rfl (E6 rfl rfl rfl) (fun hc => B1 0 rfl M9 rfl B5 (A0 rfl) rfl) ?_
  refine E0 rfl (E6 rfl rfl rfl) (fun hc => B0 0 rfl (A9 rfl hc) rfl C6 rfl) ?_
  refine E0 rfl (E6 rfl rfl rfl) (fun hc => f5 rfl (A9 rfl hc) (A9 rfl hc)) ?_
  refine E0 rfl (J1 rfl rfl rfl) (fun hc => J5 rfl (A9 rfl hc) (T1 rfl hc)) ?_
  refine B2 rfl rfl (Q8 rfl (A0 rfl) (F7 rfl)) ?_
  refine B2 rfl rfl (B8 rfl (A0 rfl)) ?_
  refine E0 rfl (J1 rfl rfl rfl) (fun hc => B1 1 rfl M9 rfl N2 (A0 rfl) rfl) ?_
  refine E0 rfl (J1 rfl rfl rfl) (fun hc => B0 0 rfl (A9 rfl hc) rfl O5 rfl) ?_
  refine E0 rfl (J1 rfl rfl rfl) (fun hc => B8 rfl (A9 rfl hc)) ?_
  refine E0 rfl (E6 rfl rfl rfl) (fun hc => B1 2 rfl M9 rfl B5 (A0 rfl) rfl) ?_
  refine E0 rfl (E6 rfl rfl rfl) (fun hc => B0 0 rfl (A9 rfl hc) rfl C6 rfl) ?_
  refine E0 rfl (E6 rfl rfl rfl) (fun hc => B1 0 rfl C4 rfl B5 (A0 rfl) rfl) ?_
  refine E0 rfl (E6 rfl rfl rfl) (fun hc => B0 1 rfl (A9 rfl hc) rfl C6 rfl) ?_
  refine E0 rfl (E6 rfl rfl rfl) (fun hc => D7 rfl Tryz.call63 rfl (f0 _ _ _) (A6 (A9 rfl hc) (A6 B4 (A6 (A9 rfl hc) C0)))) ?_
  refine E0 rfl (E6 rfl rfl rfl) (fun hc => M2 rfl (A9 rfl hc)) ?_
  refine E0 rfl (J1 rfl rfl rfl) (fun hc => J5 rfl (A9 rfl hc) (T1 rfl hc)) ?_
  refine B2 rfl rfl (Q8 rfl (A0 rfl) (F7 rfl)) ?_
  refine B2 rfl rfl (B8 rfl (A0 rfl)) ?_
  refine E0 rfl (J1 rfl rfl rfl) (fun hc => B1 1 rfl M9 rfl N2 (A0 rfl) rfl) ?_
  refine E0 rfl (J1 rfl rfl rfl) (fun hc => B0 0 rfl (A9 rfl hc) rfl O5 rfl) ?_
  refine E0 rfl (J1 rfl rfl rfl) (fun hc => M2 rfl (A9 rfl hc)) ?_
  refine E0 rfl (J1 rfl rfl rfl) (fun hc => B8 rfl (A9 rfl hc)) ?_
  refine E0 rfl (E6 rfl rfl rfl) (fun hc => B1 2 rfl M9 rfl B5 (A0 rfl) rfl) ?_
  refine E0 rfl (E6 rfl rfl rfl) (fun hc => B0 0 rfl (A9 rfl hc) rfl C6 rfl) ?_
  refine E0 rfl (E6 rfl rfl rfl) (fun hc => Z7 rfl (A9 rfl hc) B4) ?_
  refine E0 rfl (J1 rfl rfl rfl) (fun hc => J5 rfl (A9 rfl hc) (T1 rfl hc)) ?_
  refine B2 rfl rfl (Q8 rfl (A0 rfl) (F7 rfl)) ?_
  refine P7 ?_
  refine B9 (A0 rfl) ?_ ?_
  ·intro h95
   have hfin : goodState s = false := by (rw [hgs2]; exact d9 hlt (by rw [AP4 hx hy, h95]; rfl))
   refine A3 (A2 ?_)
   refine A1 rfl (B6 rfl E9) ?_
   refine A4 ?_
   refine C2 ?_
   exact I3 rfl (C1 rfl (by exact congrArg AV.bool hfin.symm))
  intro h95
  refine C3 (A3 (A2 ?_))
  refine A1 rfl (F1 1 rfl (A0 rfl) rfl F0 C5 rfl) ?_
  refine A1 rfl (B1 0 rfl M9 rfl B5 (A0 rfl) rfl) ?_
  refine A1 rfl (B0 0 rfl (A0 rfl) rfl C6 rfl) ?_
  refine A1 rfl (D7 rfl Tryz.call120 rfl (AF5 _ _ (by first | assumption | omega)) (A6 (A0 rfl) (A6 (A0 rfl) C0))) ?_
  refine A5 rfl ?_
  refine A1 rfl (G6 rfl (A0 rfl) rfl) ?_
  refine A1 rfl (G6 rfl (A0 rfl) rfl) ?_
  refine F5 rfl rfl rfl rfl Tryz.zeroValue130 rfl ?_
  intro b7
  refine D2 0 rfl rfl rfl (A0 rfl) (A0 rfl) (D6 _) rfl D5 rfl ?_
  refine B3 rfl ?_
  refine A4 (A3 (A2 ?_))
  refine A5 rfl ?_
  refine A4 ?_
  refine B9 (A0 rfl) ?_ ?_
  ·intro h103
   have hfin : goodState s = false := by (rw [hgs2]; exact d9 hlt (by rw [AP4 hx hy, ← AH5, h103]; simp))
   refine A3 (A2 ?_)
   refine A1 rfl (B6 rfl E9) ?_
   refine A4 ?_
   refine C2 ?_
   exact I3 rfl (C1 rfl (by exact congrArg AV.bool hfin.symm))
  intro h103
  refine C3 (A2 ?_)
  refine A1 rfl (G0 rfl (A0 rfl) B4 (by first | omega | (simp only [C8, A7, szR] at *; omega))) ?_
  refine A5 rfl ?_
  refine A4 ?_
  refine K4 q (q + 1) ?_ ?_ (X3 2 ⟨rfl, rfl, rfl, rfl, trivial⟩)
  ·exact ⟨by omega, fun j hj => if hji : j < q then hinv.2 j hji else (by have e : j = q := (by omega); subst e; rw [AP4 hx hy, h95, ← AH5, h103]; rfl)⟩
  omega
 intro h50
 have k50 := of_decide_eq_false h50; try simp only [A8] at k50
 have hge : s.Told.length ≤ q := by omega
 have hfin : goodState s = true := by (rw [hgs2]; exact t1.2 fun j hj => hinv.2 j (by omega))
 refine G1 ?_
 refine A3 (A2 ?_)
 refine A1 rfl (B6 rfl E9) ?_
 refine A4 ?_
 refine C2 ?_
 exact I3 rfl (C1 rfl (by exact congrArg AV.bool hfin.symm))
end Go.Proofs.YtoaoicnnimjbeaaGreat

namespace Go.Proofs.YtoaoicnnimjbeaaGreat
open Go Go.AV Go.M
attribute [local irreducible] OpW OpA OpS AWP FSpec ESpec GSpec OpE RetOk RetOkG RvDen Le Ev GuardIs SrcIs
theorem Aw1 (v : Value) (l : List TWrite) (w : TWrite) (hl : l.length ≤ 4194303) : GSpec Tryz.prog 79 [AV.is v, AV.agg w.cs] [.arr v 79 3 (l.map TWrite.cs)] (fun _ : Value => True) (fun v => [.arr v 79 3 ((putW l w).map TWrite.cs)]) (fun v => AV.is v) := by
 have hle := BC7 l w.Key
 refine H3 Tryz.func79 rfl Tryz.ntmps79 rfl ?_
 refine A3 (A2 ?_)
 refine N1 rfl rfl rfl rfl (A0 rfl) ?_
 intro b3
 refine A1 rfl (B6 rfl L4) ?_
 refine A4 (A3 (A2 ?_))
 refine A5 rfl ?_
 refine A1 rfl (B1 0 rfl J3 rfl E3 (A0 rfl) rfl) ?_
 refine A1 rfl (B0 0 rfl (A0 rfl) rfl G3 rfl) ?_
 refine A1 rfl (j8 rfl Tryz.call112 rfl (AK9 l w.Key (by omega)) (o6 (D8 (G7 _ _) (D8 (H2 _) H0))) (U9 (AW1 1 (A0 rfl) rfl) (U9 (evb (A0 rfl)) Z8))) ?_
 refine A5 rfl ?_
 refine A1 rfl (G6 rfl (A0 rfl) rfl) ?_
 refine A1 rfl (G6 rfl (A0 rfl) rfl) ?_
 refine B3 rfl ?_
 refine B3 rfl ?_
 refine A4 (A3 (A3 (A2 ?_)))
 refine A5 rfl ?_
 refine A4 ?_
 refine B9 (A0 rfl) ?_ ?_
 ·intro h14
  obtain ⟨y, hy, _⟩ := AN6.1 h14
  have hlt := (List.getElem?_eq_some_iff.1 hy).1
  have he : putW l w = l.set (wPos l w.Key) w := by unfold putW; rw [if_pos h14]
  rw [he]
  refine A3 (A2 ?_)
  refine A5 rfl ?_
  refine A5 rfl ?_
  refine A1 rfl (F1 0 rfl (A0 rfl) rfl P8 E5 rfl) ?_
  refine A1 rfl (U7 1 rfl D1 E5 (A0 rfl) rfl (A0 rfl) (by omega) (by simp only [A8, Int.toNat_natCast]; omega)) ?_
  refine AB3 1 rfl rfl rfl (A0 rfl) (A0 rfl) (D6 _) rfl E5 rfl (by simp only [A8, Int.toNat_natCast]; omega) ?_
  refine A4 (A3 (A2 ?_))
  refine A5 rfl ?_
  refine B3 rfl ?_
  refine A4 ?_
  refine C2 ?_
  exact L5 [1] v (trivial) rfl (by first | rfl | exact congrArg (fun z => [Own.arr _ 79 3 z]) List.map_set) (P0 rfl (C1 rfl (by first | rfl | (refine congrArg AV.bool ?_; simp_all; done))))
 intro h14
 have he : putW l w = l.take (wPos l w.Key) ++ w :: l.drop (wPos l w.Key) := by unfold putW; rw [if_neg (by rw [h14]; decide)]
 rw [he]
 refine C3 (A3 (A2 ?_))
 refine A5 rfl ?_
 refine A5 rfl ?_
 refine A1 rfl (F1 0 rfl (A0 rfl) rfl P8 E5 rfl) ?_
 refine AD1 rfl rfl rfl rfl D1 E5 Tryz.zeroValue79 rfl rfl rfl rfl (D0 (A0 rfl) (D6 _) G9) rfl rfl ?_
 intro v23
 refine H9 [2, 0] rfl rfl rfl rfl Tryz.call113 rfl (Ae8 _ _ l w (wPos l w.Key) hle (by omega)) (A6 (A0 rfl) (A6 (A0 rfl) (A6 (A0 rfl) C0))) rfl ?_
 intro x24 ok24
 refine B3 rfl ?_
 refine A4 ?_
 refine C2 ?_
 exact L5 [0] x24 (trivial) rfl (by first | rfl | exact congrArg (fun z => [Own.arr _ 79 3 z]) List.map_set) (P0 rfl (C1 rfl (by first | rfl | (refine congrArg AV.bool ?_; simp_all; done))))
theorem BJ0 (l : List TWrite) (w : TWrite) (hl : l.length ≤ 4194303) : GSpec Tryz.prog 45 [AV.list 3 (l.map TWrite.cs), AV.agg w.cs] [] (fun _ : Value => True) (fun v => [.arr v 79 3 ((putWS l w).map TWrite.cs)]) (fun v => AV.is v) := by
 refine H3 Tryz.func45 rfl Tryz.ntmps45 rfl ?_
 refine A3 (A2 ?_)
 refine N1 rfl rfl rfl rfl (A0 rfl) ?_
 intro b3
 refine A1 rfl (B6 rfl L4) ?_
 refine A4 (A3 (A2 ?_))
 refine A5 rfl ?_
 refine A1 rfl (F6 rfl D1 (A0 rfl)) ?_
 refine B3 rfl ?_
 refine A4 (A3 (C7 ?_))
 rw [show (List.map TWrite.cs l).length = l.length from A8 _]
 refine J0 [(0, _), (3, _), (4, _)] _ (fun (i : Int) => 0 ≤ i ∧ i ≤ l.length ∧ scanW l w.Key l.length = scanW l w.Key i.toNat) (fun (i : Int) => []) (fun (i : Int) => [(5, AV.int i)]) (fun (i : Int) => i.toNat) (l.length) ?_ (K2 ⟨rfl, rfl, rfl, rfl, trivial⟩) ?_
 ·exact ⟨by omega, by omega, rfl⟩
 intro i hinv
 obtain ⟨y, hy⟩ := y6 l (i - 1).toNat
 refine A3 (A3 ?_)
 refine L1 (by kernel_rfl) (by kernel_rfl) rfl ?_
 refine B2 rfl rfl (B8 rfl (A0 rfl)) ?_
 refine B2 rfl rfl (R8 rfl (A0 rfl) B4) ?_
 refine B2 rfl rfl (B8 rfl (A0 rfl)) ?_
 refine E0 rfl (I9 rfl rfl rfl) (fun hc => B8 rfl (A0 rfl)) ?_
 refine E0 rfl (I9 rfl rfl rfl) (fun hc => B8 rfl (A0 rfl)) ?_
 refine E0 rfl (I9 rfl rfl rfl) (fun hc => R7 rfl (A9 rfl hc) B4 (by first | omega | ((try simp only [C8, A7, szR] at *); omega) | (have hc2 := hc; simp only [Q0, beq_iff_eq, bne_iff_ne, A8, D9] at hc2; omega))) ?_
 refine E0 rfl (I9 rfl rfl rfl) (fun hc => I2 rfl D1 E5 (A9 rfl hc) (A9 rfl hc) (hy (by first | omega | ((try simp only [C8, A7, szR] at *); omega) | (have hc2 := hc; simp only [Q0, beq_iff_eq, bne_iff_ne, A8, D9] at hc2; omega))) (by first | omega | ((try simp only [C8, A7, szR] at *); omega) | (have hc2 := hc; simp only [Q0, beq_iff_eq, bne_iff_ne, A8, D9] at hc2; omega))) ?_
 refine E0 rfl (I9 rfl rfl rfl) (fun hc => X1 rfl J3 rfl E3 (A9 rfl hc) rfl) ?_
 refine E0 rfl (I9 rfl rfl rfl) (fun hc => L6 rfl (A9 rfl hc) G3 rfl) ?_
 refine E0 rfl (I9 rfl rfl rfl) (fun hc => B1 0 rfl J3 rfl E3 (A0 rfl) rfl) ?_
 refine E0 rfl (I9 rfl rfl rfl) (fun hc => B0 0 rfl (A9 rfl hc) rfl G3 rfl) ?_
 refine E0 rfl (I9 rfl rfl rfl) (fun hc => AR2 rfl (A9 rfl hc) (A9 rfl hc)) ?_
 refine B2 rfl rfl (J5 rfl (A0 rfl) (F7 rfl)) ?_
 refine P7 ?_
 refine B9 (A0 rfl) ?_ ?_
 ·intro h22
  have hb : 0 < i ∧ Op.bytesLess w.Key y.Key = true := by rw [AK2] at h22; simpa using h22
  have hst : scanW l w.Key l.length = scanW l w.Key (i - 1).toNat := by rw [hinv.2.2]; obtain ⟨n, rfl⟩ : ∃ n : Nat, i = n + 1 := ⟨(i - 1).toNat, by omega⟩; rw [show ((n : Int) + 1).toNat = n + 1 by omega, show ((n : Int) + 1 - 1).toNat = n by omega]; exact BF5 (by have := hy (by omega); rwa [show ((n : Int) + 1 - 1).toNat = n by omega] at this) hb.2
  refine C3 (C7 (A2 ?_))
  refine A5 rfl ?_
  refine A1 rfl (R7 rfl (A0 rfl) B4 (by first | omega | (simp only [C8, A7, szR] at *; omega))) ?_
  refine B3 rfl ?_
  refine A4 ?_
  refine m3 ?_
  refine K4 i (i - 1) ?_ ?_ (K2 ⟨rfl, rfl, rfl, rfl, trivial⟩)
  ·exact ⟨by omega, by omega, hst⟩
  omega
 intro h22
 obtain ⟨k, rfl⟩ : ∃ k : Nat, i = k := ⟨i.toNat, by omega⟩
 have hk : scanW l w.Key l.length = k := by rw [hinv.2.2, Int.toNat_natCast]; rw [AK2] at h22; rcases Nat.eq_zero_or_pos k with h0 | h0; subst h0; rfl; (obtain ⟨n, rfl⟩ : ∃ n, k = n + 1 := ⟨k - 1, by omega⟩; exact BF6 (by have := hy (by omega); rwa [show (((n + 1 : Nat) : Int) - 1).toNat = n by omega] at this) (by simpa using h22))
 have hh : hitW l w.Key k = (decide (0 < k) && (y.Key == w.Key)) := by rcases Nat.eq_zero_or_pos k with h0 | h0; subst h0; rfl; (obtain ⟨n, rfl⟩ : ∃ n, k = n + 1 := ⟨k - 1, by omega⟩; have h9 := hy (by omega); rw [show (((n + 1 : Nat) : Int) - 1).toNat = n by omega] at h9; simp [hitW, h9])
 refine G1 ?_
 refine A3 (A3 ?_)
 refine L1 (by kernel_rfl) (by kernel_rfl) rfl ?_
 refine B2 rfl rfl (B8 rfl (A0 rfl)) ?_
 refine B2 rfl rfl (R8 rfl (A0 rfl) B4) ?_
 refine B2 rfl rfl (B8 rfl (A0 rfl)) ?_
 refine E0 rfl (I9 rfl rfl rfl) (fun hc => B8 rfl (A0 rfl)) ?_
 refine E0 rfl (I9 rfl rfl rfl) (fun hc => B8 rfl (A0 rfl)) ?_
 refine E0 rfl (I9 rfl rfl rfl) (fun hc => R7 rfl (A9 rfl hc) B4 (by first | omega | ((try simp only [C8, A7, szR] at *); omega) | (have hc2 := hc; simp only [Q0, beq_iff_eq, bne_iff_ne, A8, D9] at hc2; omega))) ?_
 refine E0 rfl (I9 rfl rfl rfl) (fun hc => I2 rfl D1 E5 (A9 rfl hc) (A9 rfl hc) (hy (by first | omega | ((try simp only [C8, A7, szR] at *); omega) | (have hc2 := hc; simp only [Q0, beq_iff_eq, bne_iff_ne, A8, D9] at hc2; omega))) (by first | omega | ((try simp only [C8, A7, szR] at *); omega) | (have hc2 := hc; simp only [Q0, beq_iff_eq, bne_iff_ne, A8, D9] at hc2; omega))) ?_
 refine E0 rfl (I9 rfl rfl rfl) (fun hc => X1 rfl J3 rfl E3 (A9 rfl hc) rfl) ?_
 refine E0 rfl (I9 rfl rfl rfl) (fun hc => L6 rfl (A9 rfl hc) G3 rfl) ?_
 refine E0 rfl (I9 rfl rfl rfl) (fun hc => B1 0 rfl J3 rfl E3 (A0 rfl) rfl) ?_
 refine E0 rfl (I9 rfl rfl rfl) (fun hc => B0 0 rfl (A9 rfl hc) rfl G3 rfl) ?_
 refine E0 rfl (I9 rfl rfl rfl) (fun hc => u6 rfl (A9 rfl hc) (A9 rfl hc)) ?_
 refine B2 rfl rfl (J5 rfl (A0 rfl) (F7 rfl)) ?_
 refine P7 ?_
 refine B9 (A0 rfl) ?_ ?_
 ·intro h37
  have hb : 0 < k ∧ y.Key = w.Key := by simpa using h37
  have he : putWS l w = l.set (k - 1) w := by unfold putWS; rw [hk, if_pos (by rw [hh]; simp [hb])]
  rw [he]
  refine A3 (A2 ?_)
  refine U6 rfl rfl rfl rfl D1 E5 ?_
  intro v38
  refine A5 rfl ?_
  refine L2 (by' := 40) 0 rfl rfl rfl rfl D1 Tryz.type79 rfl rfl rfl rfl rfl rfl (A0 rfl) (A0 rfl) rfl (by first | omega | (simp only [C8, A7, szR] at *; omega)) ?_
  intro v40_1
  refine B3 rfl ?_
  refine A4 (A3 (A2 ?_))
  refine A5 rfl ?_
  refine A5 rfl ?_
  refine A1 rfl (R7 rfl (A0 rfl) B4 (by first | omega | (simp only [C8, A7, szR] at *; omega))) ?_
  refine A1 rfl (F1 1 rfl (A0 rfl) rfl P8 E5 rfl) ?_
  refine A1 rfl (U7 0 rfl D1 E5 (A0 rfl) rfl (A0 rfl) (by omega) (by simp only [List.nil_append, A8]; omega)) ?_
  refine AB3 0 rfl rfl rfl (A0 rfl) (A0 rfl) (D6 _) rfl E5 rfl (by simp only [List.nil_append, A8]; omega) ?_
  refine A4 (A3 (A2 ?_))
  refine A5 rfl ?_
  refine B3 rfl ?_
  refine A4 ?_
  refine C2 ?_
  exact L5 [0] v40_1 (trivial) rfl (by exact congrArg (fun z => [Own.arr _ 79 3 z]) (by first | (rw [List.nil_append, ← List.map_set, show ((k : Int) - 1).toNat = k - 1 by omega]; done) | (simp [chunks]; done) | (simp; rfl))) (P0 rfl (C1 rfl (by first | rfl | (refine congrArg AV.bool ?_; simp_all; done))))
 intro h37
 have he : putWS l w = l.take k ++ w :: l.drop k := by unfold putWS; rw [hk, if_neg (by rw [hh]; simpa using h37)]
 rw [he]
 refine C3 (A3 (A2 ?_))
 refine U6 rfl rfl rfl rfl D1 E5 ?_
 intro v47
 refine A5 rfl ?_
 refine A5 rfl ?_
 refine A1 rfl (AB5 rfl D1 E5 (A0 rfl) (A0 rfl) (by first | omega | (simp only [C8, A7, szR] at *; omega)) (by first | omega | (simp only [C8, A7, szR] at *; omega))) ?_
 refine L2 (by' := 40) 0 rfl rfl rfl rfl D1 Tryz.type79 rfl rfl rfl rfl rfl rfl (A0 rfl) (A0 rfl) rfl (by simp only [A7, J6, N4, A8, D9, I5, List.length_drop]; omega) ?_
 intro v51_2
 refine r8 (X6 [0] 51 rfl rfl (M8 (F9 (i := 0) rfl) I7) O3) ?_
 refine B3 rfl ?_
 refine A4 (A3 ?_)
 refine V3 _ [(1, false), (2, false), (3, false), (5, false), (6, false), (8, false), (0, true), (4, true), (7, true), (9, true)] (by kernel_rfl) (by kernel_rfl) rfl i6 ?_
 refine H7 rfl rfl rfl (fun ext => B8 rfl (A0 rfl)) ?_
 refine H7 rfl rfl rfl (fun ext => B8 rfl (A0 rfl)) ?_
 refine H7 rfl rfl rfl (fun ext => m8 rfl D1 E5 (A0 rfl) (A0 rfl) (by first | omega | (simp only [C8, A7, szR] at *; omega)) (by first | omega | (simp only [C8, A7, szR] at *; omega))) ?_
 refine H7 rfl rfl rfl (fun ext => F1 0 rfl (A0 rfl) rfl P8 E5 rfl) ?_
 refine H7 rfl rfl rfl (fun ext => K9 rfl D1 E5 Tryz.zeroValue79 rfl rfl rfl rfl (D0 (A0 rfl) (D6 _) G9) rfl rfl) ?_
 refine H7 rfl rfl rfl (fun ext => B8 rfl (A0 rfl)) ?_
 refine V4 rfl rfl rfl (Z6 rfl D1 E5) (fun a _ => (by first | exact E1 rfl | exact E1 (List.append_assoc _ _ _) | exact H6)) ?_
 intro v52 _
 refine V4 rfl rfl rfl (R5 (by' := 40) 1 rfl D1 Tryz.type79 rfl rfl rfl rfl rfl rfl (A0 rfl) (A0 rfl) rfl (by simp only [A7, J6, N4, A8, D9, I5, List.length_drop]; omega)) (fun a _ => (by first | exact E1 rfl | exact E1 (List.append_assoc _ _ _) | exact H6)) ?_
 intro v56_3 _
 refine V4 rfl rfl rfl (R5 (by' := 40) 1 rfl D1 Tryz.type79 rfl rfl rfl rfl rfl rfl (A0 rfl) (A0 rfl) rfl (by simp only [A7, J6, N4, A8, D9, I5, List.length_drop]; omega)) (fun a _ => (by first | exact E1 rfl | exact E1 (List.append_assoc _ _ _) | exact H6)) ?_
 intro v59_4 _
 refine V4 rfl rfl rfl (R5 (by' := 40) 1 rfl D1 Tryz.type79 rfl rfl rfl rfl rfl rfl (A0 rfl) (A0 rfl) rfl (by simp only [A7, J6, N4, A8, D9, I5, List.length_drop]; omega)) (fun a _ => (by first | exact E1 rfl | exact E1 (List.append_assoc _ _ _) | exact H6)) ?_
 intro v61_5 _
 refine l4 ?_
 refine B3 rfl ?_
 refine A4 ?_
 refine C2 ?_
 exact L5 [1] v61_5 (trivial) rfl (by exact congrArg (fun z => [Own.arr _ 79 3 z]) (by first | (rw [List.nil_append, ← List.map_set, show ((k : Int) - 1).toNat = k - 1 by omega]; done) | (simp [chunks]; done) | (simp; rfl))) (P0 rfl (C1 rfl (by first | rfl | (refine congrArg AV.bool ?_; simp_all; done))))
end Go.Proofs.YtoaoicnnimjbeaaGreat

namespace Go.Proofs.YtoaoicnnimjbeaaGreat
open Go Go.AV Go.M
attribute [local irreducible] OpW OpA OpS AWP FSpec ESpec GSpec OpE RetOk RetOkG RvDen Le Ev GuardIs
end Go.Proofs.YtoaoicnnimjbeaaGreat

namespace Go.Proofs.YtoaoicnnimjbeaaGreat
open Go Go.AV Go.M
attribute [local irreducible] OpW OpA OpS AWP FSpec ESpec GSpec OpE RetOk RetOkG RvDen Le Ev GuardIs SrcIs
end Go.Proofs.YtoaoicnnimjbeaaGreat

set_option maxHeartbeats 2000000
namespace Go.M
open Go.AV
structure SO (s : TState) : Prop where
  floor : 0 ≤ s.Floor
  cells : CellsOk s.Cells
  hsort : s.Held.Pairwise fun a b => a.Txn < b.Txn
  tsort : s.Told.Pairwise fun a b => a.Txn < b.Txn
  times : ∀ h ∈ s.Held, 1 ≤ h.Time
theorem gs_so {s : TState} (g : GS s) : SO s := ⟨g.floor.1, a6 g.cells, g.hsort, g.tsort, fun h hm => (BI3 g hm).1⟩
theorem BD9 {t : Int} : ∀ {w : List TWrite} {l q : List TCell}, CellsOk l → putAll l w t = some q → CellsOk q
  | [], l, q, h, e => by simp [putAll] at e; subst e; exact h
  | x :: w, l, q, h, e => by
    unfold putAll at e
    split at e
    · cases e
    · exact BD9 (r5 h _ _) e
theorem so_apply {s : TState} (g : SO s) {r : TRec} (h : (applyS s r).2 = true) : SO (applyS s r).1 := by
  have h0 := g.floor
  have hless : SO ⟨s.Floor, s.Cells, lessH s.Held r.Txn, s.Told⟩ := ⟨h0, g.cells, g.hsort.sublist List.filter_sublist, g.tsort, fun k hk => g.times k (n0.1 hk).1⟩
  unfold applyS at h ⊢
  by_cases h4 : r.Kind = 4
  · rw [if_pos h4] at h ⊢
    have := of_decide_eq_true h
    exact ⟨by dsimp only; omega, g.cells, g.hsort, g.tsort, g.times⟩
  · rw [if_neg h4] at h ⊢
    by_cases hT : hasT s.Told r.Txn = true
    · rw [if_pos hT] at h; cases h
    · rw [if_neg hT] at h ⊢
      rw [Bool.not_eq_true] at hT
      have htn := Ab0.1 hT
      have htl : (insT ⟨r.Txn, r.Yes, r.Time⟩ s.Told).Pairwise fun a b => a.Txn < b.Txn := AT2 g.tsort htn
      by_cases h1 : r.Kind = 1
      · rw [if_pos h1] at h ⊢
        simp only [Bool.and_eq_true, Bool.not_eq_true', decide_eq_true_eq] at h
        refine ⟨by dsimp only; omega, g.cells, AT1 g.hsort (t2.1 h.1.1), g.tsort, fun k hk => ?_⟩
        rcases p3.1 hk with rfl | hk
        · show 1 ≤ r.Time; omega
        · exact g.times k hk
      · rw [if_neg h1] at h ⊢
        by_cases hy : r.Yes = true
        · rw [if_pos hy] at h ⊢
          cases hf : findH s.Held r.Txn with
          | none => rw [hf] at h; cases h
          | some k =>
            rw [hf] at h
            dsimp only at h ⊢
            by_cases hlt : r.Time < k.Time
            · rw [if_pos hlt] at h; cases h
            · rw [if_neg hlt] at h ⊢
              by_cases hp : (putP s.Cells k.Writes r.Time).2 = true
              · rw [if_pos hp]
                exact ⟨by unfold doneS; dsimp only; split <;> omega, BD9 g.cells (Ah6 hp).1, hless.hsort, htl, hless.times⟩
              · rw [if_neg hp] at h; cases h
        · rw [if_neg hy]
          exact ⟨h0, g.cells, hless.hsort, htl, hless.times⟩
theorem so_step {s : TState} (g : SO s) (r : TRec) : SO (stepS s r) := by
  unfold stepS
  split
  · exact so_apply g ‹_›
  · exact g
theorem BE0 : SO zState := gs_so BD5
theorem Ai5 : ∀ {l : List TRec} {s : TState}, SO s → SO (stFrom s l)
  | [], s, g => g
  | r :: l, s, g => by
    show SO (stFrom (stepS s r) l)
    exact Ai5 (so_step g r)
theorem AH6 {l : List THeld} {i : Nat} {h : THeld} {n : Int} (hx : l[i]? = some h) : lessH (l.take (i + 1)) n = if (h.Txn != n) = true then lessH (l.take i) n ++ [h] else lessH (l.take i) n := by
  unfold lessH
  rw [List.take_add_one, hx, List.filter_append]
  show _ ++ List.filter _ [h] = _
  split
  · rename_i e; rw [List.filter_cons_of_pos (p := fun h : THeld => h.Txn != n) e]; rfl
  · rename_i e; rw [List.filter_cons_of_neg (p := fun h : THeld => h.Txn != n) e]; simp
end Go.M
namespace Go.Proofs.YtoaoicnnimjbeaaGreat
open Go Go.AV Go.M
attribute [local irreducible] OpW OpA OpS AWP FSpec ESpec GSpec OpE RetOk RetOkG RvDen Le Ev GuardIs SrcIs Int.tmod Int.tdiv IntKind.wrap
theorem Af6 (s : TState) (rs : List Str) (ws : List TWrite) (hs : s.size ≤ 400000) (hw : sizeL TWrite.size ws ≤ 400000) : FSpec Tryz.prog 203 [AV.agg s.cs, strs rs, AV.list 3 (ws.map TWrite.cs)] (AV.bool (fits s rs ws)) := by
 obtain ⟨hs1, hs2, hs3, hs4, hs5⟩ := X0 hs
 have hrm : room s.Cells (ws ++ hWs s.Held) = room s.Cells (hWs s.Held ++ ws) := Al5 fun w => by rw [List.mem_append, List.mem_append, or_comm]
 refine E2 Tryz.func203 rfl Tryz.ntmps203 rfl ?_
 refine A3 (A2 ?_)
 refine N1 rfl rfl rfl rfl (A0 rfl) ?_
 intro b3
 refine A1 rfl (B6 rfl E9) ?_
 refine A4 (A3 (A3 (A2 ?_)))
 refine A1 rfl (B1 2 rfl C4 rfl G8 (A0 rfl) rfl) ?_
 refine A1 rfl (B0 0 rfl (A0 rfl) rfl M5 rfl) ?_
 refine A1 rfl (F6 rfl E4 (A0 rfl)) ?_
 refine A1 rfl (B8 rfl B4) ?_
 refine A4 (C7 ?_)
 refine J0 [(1, _), (2, _), (3, _), (10, _), (11, _)] _ (fun (i : Nat) => i ≤ s.Held.length ∧ (s.Held.all fun h => apart h rs ws) = ((s.Held.drop i).all fun h => apart h rs ws)) (fun (i : Nat) => []) (fun (i : Nat) => [(12, AV.int i)]) (fun (i : Nat) => s.Held.length - i) (0) ?_ (K2 ⟨rfl, rfl, rfl, rfl, rfl, rfl, trivial⟩) ?_
 ·exact ⟨Nat.zero_le _, rfl⟩
 intro i hinv
 refine A3 (A2 ?_)
 refine A1 rfl (J8 rfl (A0 rfl) (A0 rfl)) ?_
 refine A4 (A3 ?_)
 refine B9 (A0 rfl) ?_ ?_
 ·intro h13
  have k13 := of_decide_eq_true h13; try simp only [A8] at k13
  have hlt : i < s.Held.length := by omega
  obtain ⟨h, hx⟩ := get_some hlt
  refine C3 (A3 (C7 (A3 (A2 ?_))))
  refine A1 rfl (I2 rfl E4 D5 (A0 rfl) (A0 rfl) hx (by first | omega | (simp only [C8, A7, szR] at *; omega))) ?_
  refine A1 rfl (K6 rfl (A0 rfl) K3 D5) ?_
  refine F5 rfl rfl rfl rfl Tryz.zeroValue130 rfl ?_
  intro b8
  refine D2 0 rfl rfl rfl (A0 rfl) (A0 rfl) (D6 _) rfl D5 rfl ?_
  refine A4 (A3 (A2 ?_))
  refine A1 rfl (F1 0 rfl (A0 rfl) rfl K3 D5 rfl) ?_
  refine A5 rfl ?_
  refine A5 rfl ?_
  refine A1 rfl (D7 rfl Tryz.call158 rfl (apart_spec _ _ _) (A6 (A0 rfl) (A6 (A0 rfl) (A6 (A0 rfl) C0)))) ?_
  refine A1 rfl (M2 rfl (A0 rfl)) ?_
  refine A4 ?_
  refine B9 (A0 rfl) ?_ ?_
  ·intro h20
   have hfin : fits s rs ws = false := by (unfold fits; rw [hinv.2, drop_some hx, List.all_cons, show apart h rs ws = false by simpa using h20]; rfl)
   refine A3 (A2 ?_)
   refine A1 rfl (B6 rfl E9) ?_
   refine A4 ?_
   refine C2 ?_
   exact I3 rfl (C1 rfl (by first | exact congrArg AV.bool hfin.symm | exact congrArg AV.bool (by unfold fits; rw [hap, hrm, Bool.true_and, A8]; congr 1; rw [decide_eq_decide]; omega)))
  intro h20
  refine C3 (A2 ?_)
  refine A1 rfl (G0 rfl (A0 rfl) B4 (by first | omega | (simp only [C8, A7, szR] at *; omega))) ?_
  refine A5 rfl ?_
  refine A4 ?_
  refine K4 i (i + 1) ?_ ?_ (X3 1 ⟨rfl, rfl, rfl, rfl, rfl, rfl, trivial⟩)
  ·exact ⟨by omega, by rw [hinv.2, drop_some hx, List.all_cons, show apart h rs ws = true by simpa using h20]; rfl⟩
  omega
 intro h13
 have k13 := of_decide_eq_false h13; try simp only [A8] at k13
 have hge : s.Held.length ≤ i := by omega
 have hap : (s.Held.all fun h => apart h rs ws) = true := by (rw [hinv.2, List.drop_eq_nil_of_le hge]; rfl)
 refine G1 ?_
 refine A3 (A2 ?_)
 refine A1 rfl (B1 2 rfl C4 rfl G8 (A0 rfl) rfl) ?_
 refine A1 rfl (B0 0 rfl (A0 rfl) rfl M5 rfl) ?_
 refine A1 rfl (F6 rfl E4 (A0 rfl)) ?_
 refine A1 rfl (J8 rfl (A0 rfl) B4) ?_
 refine A5 rfl ?_
 refine D3 rfl (fun hc => F1 0 rfl (A0 rfl) rfl F0 C5 rfl) ?_
 refine D3 rfl (fun hc => B8 rfl (A0 rfl)) ?_
 refine D3 rfl (fun hc => D7 rfl Tryz.call159 rfl (Af5 _ _ (by first | assumption | omega) (by first | assumption | omega)) (A6 (A9 rfl hc) (A6 (A9 rfl hc) C0))) ?_
 refine A1 rfl (J5 rfl (A0 rfl) (F7 rfl)) ?_
 refine B3 rfl ?_
 refine A4 ?_
 refine C2 ?_
 exact I3 rfl (C1 rfl (by first | exact congrArg AV.bool hfin.symm | exact congrArg AV.bool (by unfold fits; rw [hap, hrm, Bool.true_and, A8]; congr 1; rw [decide_eq_decide]; omega)))
theorem BA5 (h : THeld) (hs : h.size ≤ 1048576) : GSpec Tryz.prog 183 [AV.agg h.cs] [] (fun _ : Value × Value => True) (fun x => THeld.ow h x) (fun x => AV.agg (THeld.ocs h x)) := by
 have h3 := O4 (f := fun x : Str => x.length) (l := h.Reads)
 have h4 := O4 (f := TWrite.size) (l := h.Writes)
 have h5 : h.size = sizeL (fun x => x.length) h.Reads + sizeL TWrite.size h.Writes := rfl
 refine H3 Tryz.func183 rfl Tryz.ntmps183 rfl ?_
 refine A3 (A2 ?_)
 refine N1 rfl rfl rfl rfl (A0 rfl) ?_
 intro b1
 refine F5 rfl rfl rfl rfl Tryz.zeroValue130 rfl ?_
 intro b2
 refine A4 (A3 (A2 ?_))
 refine A1 rfl (B1 3 rfl G2 rfl H5 (A0 rfl) rfl) ?_
 refine A1 rfl (B0 1 rfl (A0 rfl) rfl K7 rfl) ?_
 refine H9 [] rfl rfl rfl rfl Tryz.call52 rfl (AD5 h.Reads (by omega)) (A6 (A0 rfl) C0) rfl ?_
 intro x5 ok5
 refine A1 rfl (B1 3 rfl G2 rfl H5 (A0 rfl) rfl) ?_
 refine T8 0 rfl fun one_x5 => ?_
 refine K8 2 rfl rfl rfl (A0 rfl) (A0 rfl) (U2 one_x5) rfl H5 rfl ?_
 refine A4 (A3 (A2 ?_))
 refine U6 rfl rfl rfl rfl D1 E5 ?_
 intro v7
 refine A1 rfl (B1 4 rfl G2 rfl L0 (A0 rfl) rfl) ?_
 refine A1 rfl (B0 3 rfl (A0 rfl) rfl M3 rfl) ?_
 refine L2 (by' := 40) 0 rfl rfl rfl rfl D1 Tryz.type79 rfl rfl rfl rfl rfl rfl (A0 rfl) (A0 rfl) rfl (by simp only [N4, A8]; omega) ?_
 intro v10_1
 refine A1 rfl (B1 4 rfl G2 rfl L0 (A0 rfl) rfl) ?_
 refine T8 0 rfl fun one_v10_1 => ?_
 refine K8 3 rfl rfl rfl (A0 rfl) (A0 rfl) (U2 one_v10_1) rfl L0 rfl ?_
 refine A4 (A3 (A2 ?_))
 refine A1 rfl (F1 3 rfl (A0 rfl) rfl K3 D5 rfl) ?_
 refine D2 2 rfl rfl rfl (A0 rfl) (A0 rfl) (D6 _) rfl D5 rfl ?_
 refine A4 ?_
 refine C2 ?_
 exact L5 [1, 0] (x5, v10_1) (trivial) rfl (by rfl) (P0 rfl (J9 (ys := _) 2 rfl rfl K3 D5 rfl))
theorem m6 (h : THeld) (hs : h.size ≤ 1048576) : FSpec Tryz.prog 183 [AV.agg h.cs] (AV.agg h.cs) :=
  Q5 (BA5 h hs) fun x _ => Z5 (THeld.lc h x)
theorem AZ2 (l : List TCell) (hs : sizeL TCell.size l ≤ 4194304) : FSpec Tryz.prog 182 [AV.list 2 (l.map TCell.cs)] (AV.list 2 (l.map TCell.cs)) :=
  Q5 (Am3 l hs) fun x h => AF2 TCell.lcM h 0 rfl fun o ho => List.mem_cons_of_mem _ ho
theorem Aw2 (s : TState) (hs : s.size ≤ 1048576) : GSpec Tryz.prog 145 [AV.agg s.cs] [] (fun _ : Value × Value => True) (fun x => TState.ow s x) (fun x => AV.agg (TState.ocs s x)) := by
 obtain ⟨hs1, hs2, hs3, hs4, hs5⟩ := X0 hs
 refine H3 Tryz.func145 rfl Tryz.ntmps145 rfl ?_
 refine A3 (A2 ?_)
 refine N1 rfl rfl rfl rfl (A0 rfl) ?_
 intro b1
 refine F5 rfl rfl rfl rfl Tryz.zeroValue53 rfl ?_
 intro b2
 refine A4 (A3 ?_)
 refine Q2 _ 11 (.pure 0 (.pure 1 (.pure 2 (.pure 3 (.pure 4 (.pure 6 (.pure 7 (.e2 5 (.e2 8 (.pure 9 (.e1 10 .nil)) 10 (.e1 8 (.pure 9 .nil))) 10 (.e1 5 (.e1 8 (.pure 9 .nil))))))))))) (by kernel_rfl) (by kernel_rfl) rfl i6 ?_
 refine D4 rfl rfl rfl (fun ext => B1 0 rfl C4 rfl B5 (A0 rfl) rfl) ?_
 refine D4 rfl rfl rfl (fun ext => B0 1 rfl (A0 rfl) rfl C6 rfl) ?_
 refine D4 rfl rfl rfl (fun ext => B1 1 rfl C4 rfl P6 (A0 rfl) rfl) ?_
 refine D4 rfl rfl rfl (fun ext => B0 1 rfl (A0 rfl) rfl S1 rfl) ?_
 refine D4 rfl rfl rfl (fun ext => D7 rfl Tryz.call182 rfl (AZ2 s.Cells (by omega)) (A6 (A0 rfl) C0)) ?_
 refine D4 rfl rfl rfl (fun ext => B1 3 rfl C4 rfl O7 (A0 rfl) rfl) ?_
 refine D4 rfl rfl rfl (fun ext => B0 1 rfl (A0 rfl) rfl T0 rfl) ?_
 refine AD3 ?_ ?_
 ·refine S6 rfl rfl rfl (Z6 rfl I8 M1) (fun a _ => (by first | exact E1 rfl | exact E1 (List.append_assoc _ _ _) | exact H6)) ?_
  intro v11 _
  refine AD3 ?_ ?_
  ·refine S6 rfl rfl rfl (i9 2 (fun _ => rfl) (R5 (by' := 24) 2 rfl I8 Tryz.type132 rfl rfl rfl rfl rfl rfl (A0 rfl) (A0 rfl) rfl (by simp only [N4, A8]; omega))) (fun a _ => (by first | exact E1 rfl | exact E1 (List.append_assoc _ _ _) | exact H6)) ?_
   intro v14_1 hone_v14_1
   have one_v14_1 := hone_v14_1.2
   refine D4 rfl rfl rfl (fun ext => N5 (places := #[(0, 1), (1, 1), (2, 1), (3, 1)]) rfl C4 Tryz.zeroValue53 (fun w => by kernel_rfl) rfl (D0 (A0 rfl) (L8 _ _) (D0 (A0 rfl) (O9 _ _) (D0 (A0 rfl) (U2 one_v14_1) G9))) rfl) ?_
   refine T9 ?_
   refine S6 rfl rfl rfl (X4 rfl Tryz.zeroValue53 rfl) (fun a _ => (by first | exact E1 rfl | exact E1 (List.append_assoc _ _ _) | exact H6)) ?_
   intro b3 _
   refine W1 ?_
   refine D2 3 rfl rfl rfl (A0 rfl) (A0 rfl) (D6 _) rfl C5 rfl ?_
   refine A4 (A3 (A3 (A2 ?_)))
   refine A1 rfl (B1 2 rfl C4 rfl G8 (A0 rfl) rfl) ?_
   refine A1 rfl (B0 1 rfl (A0 rfl) rfl M5 rfl) ?_
   refine A1 rfl (F6 rfl E4 (A0 rfl)) ?_
   refine A1 rfl (B8 rfl B4) ?_
   refine A4 (C7 ?_)
   refine W5 130 5 ?_
   refine AWP.le (F8 [4, 0] rfl) ?_
   refine P3 [(2, _), (3, _), (17, _), (18, _)] _ (fun (i : Nat) (v : Value) => i ≤ s.Held.length) (fun (i : Nat) (v : Value) => [.box b3 53 [AV.int s.Floor, AV.list 2 (s.Cells.map TCell.cs), AV.is v, AV.is v14_1], .arr v 130 5 ((s.Held.take i).map THeld.cs)]) (fun (i : Nat) (v : Value) => [(19, AV.int i)]) (fun (i : Nat) (v : Value) => s.Held.length - i) (0) ((Value.slice none 0 0)) ?_ (O8 (by rfl) ⟨rfl, rfl, rfl, rfl, rfl, trivial⟩) ?_
   ·exact Nat.zero_le _
   intro i v hinv
   refine A3 (A2 ?_)
   refine A1 rfl (J8 rfl (A0 rfl) (A0 rfl)) ?_
   refine A4 (A3 ?_)
   refine B9 (A0 rfl) ?_ ?_
   ·intro h20
    have k20 := of_decide_eq_true h20; try simp only [A8] at k20
    have hlt : i < s.Held.length := by omega
    obtain ⟨h, hx⟩ := get_some hlt
    obtain ⟨g1, g2, g3, g4, g5⟩ := Y1 hs2 hx
    refine C3 (A3 (C7 (A3 (A2 ?_))))
    refine A1 rfl (I2 rfl E4 D5 (A0 rfl) (A0 rfl) hx (by first | omega | (simp only [C8, A7, szR] at *; omega))) ?_
    refine A1 rfl (K6 rfl (A0 rfl) K3 D5) ?_
    refine F5 rfl rfl rfl rfl Tryz.zeroValue130 rfl ?_
    intro b5
    refine D2 0 rfl rfl rfl (A0 rfl) (A0 rfl) (D6 _) rfl D5 rfl ?_
    refine A4 ?_
    refine S9 5 (by kernel_rfl) (by kernel_rfl) rfl ?_
    refine B2 rfl rfl (B1 2 rfl C4 rfl G8 (A0 rfl) rfl) ?_
    refine B2 rfl rfl (B0 1 rfl (A0 rfl) rfl M5 rfl) ?_
    refine B2 rfl rfl (F1 0 rfl (A0 rfl) rfl K3 D5 rfl) ?_
    refine B2 rfl rfl (D7 rfl Tryz.call183 rfl (m6 _ (by first | assumption | omega)) (A6 (A0 rfl) C0)) ?_
    refine B2 rfl rfl (K9 rfl E4 D5 Tryz.zeroValue130 rfl rfl rfl rfl (D0 (A0 rfl) (D6 _) G9) rfl rfl) ?_
    refine P7 ?_
    refine L2 (by' := 72) 2 rfl rfl rfl rfl E4 Tryz.type130 rfl rfl rfl rfl rfl rfl (A0 rfl) (A0 rfl) rfl (by simp only [A8, D9, A7]; omega) ?_
    intro v28_2
    refine A1 rfl (B1 2 rfl C4 rfl G8 (A0 rfl) rfl) ?_
    refine T8 2 rfl fun one_v28_2 => ?_
    refine K8 1 rfl rfl rfl (A0 rfl) (A0 rfl) (U2 one_v28_2) rfl G8 rfl ?_
    refine A4 (A2 ?_)
    refine A1 rfl (G0 rfl (A0 rfl) B4 (by first | omega | (simp only [C8, A7, szR] at *; omega))) ?_
    refine A5 rfl ?_
    refine A4 ?_
    refine O2 i v (i + 1) (v28_2) ?_ ?_ (Le.trans (F8 [0, 0, 0] rfl) (K0 1 (by exact congrArg (fun z => Own.box b3 53 [AV.int s.Floor, AV.list 2 (s.Cells.map TCell.cs), AV.is v28_2, AV.is v14_1] :: Own.arr v28_2 130 5 z :: _) (Y3 (f := THeld.cs) hx)) ⟨rfl, rfl, rfl, rfl, rfl, trivial⟩))
    ·omega
    omega
   intro h20
   have k20 := of_decide_eq_false h20; try simp only [A8] at k20
   have hge : i = s.Held.length := by omega
   rw [hge, List.take_length]
   refine G1 ?_
   refine A3 (A2 ?_)
   refine A1 rfl (F1 0 rfl (A0 rfl) rfl F0 C5 rfl) ?_
   refine D2 2 rfl rfl rfl (A0 rfl) (A0 rfl) (D6 _) rfl C5 rfl ?_
   refine A4 ?_
   refine C2 ?_
   exact L5 [1, 3] (v, v14_1) (trivial) rfl (by rfl) (P0 rfl (J9 (ys := _) 2 rfl rfl F0 C5 rfl))
  refine S6 rfl rfl rfl (X4 rfl Tryz.zeroValue53 rfl) (fun a _ => (by first | exact E1 rfl | exact E1 (List.append_assoc _ _ _) | exact H6)) ?_
  intro b3 _
  refine T9 ?_
  refine S6 rfl rfl rfl (i9 2 (fun _ => rfl) (R5 (by' := 24) 2 rfl I8 Tryz.type132 rfl rfl rfl rfl rfl rfl (A0 rfl) (A0 rfl) rfl (by simp only [N4, A8]; omega))) (fun a _ => (by first | exact E1 rfl | exact E1 (List.append_assoc _ _ _) | exact H6)) ?_
  intro v14_3 hone_v14_3
  have one_v14_3 := hone_v14_3.2
  refine D4 rfl rfl rfl (fun ext => N5 (places := #[(0, 1), (1, 1), (2, 1), (3, 1)]) rfl C4 Tryz.zeroValue53 (fun w => by kernel_rfl) rfl (D0 (A0 rfl) (L8 _ _) (D0 (A0 rfl) (O9 _ _) (D0 (A0 rfl) (U2 one_v14_3) G9))) rfl) ?_
  refine W1 ?_
  refine D2 3 rfl rfl rfl (A0 rfl) (A0 rfl) (D6 _) rfl C5 rfl ?_
  refine A4 (A3 (A3 (A2 ?_)))
  refine A1 rfl (B1 2 rfl C4 rfl G8 (A0 rfl) rfl) ?_
  refine A1 rfl (B0 1 rfl (A0 rfl) rfl M5 rfl) ?_
  refine A1 rfl (F6 rfl E4 (A0 rfl)) ?_
  refine A1 rfl (B8 rfl B4) ?_
  refine A4 (C7 ?_)
  refine W5 130 5 ?_
  refine AWP.le (F8 [4, 0] rfl) ?_
  refine P3 [(2, _), (3, _), (17, _), (18, _)] _ (fun (i : Nat) (v : Value) => i ≤ s.Held.length) (fun (i : Nat) (v : Value) => [.box b3 53 [AV.int s.Floor, AV.list 2 (s.Cells.map TCell.cs), AV.is v, AV.is v14_3], .arr v 130 5 ((s.Held.take i).map THeld.cs)]) (fun (i : Nat) (v : Value) => [(19, AV.int i)]) (fun (i : Nat) (v : Value) => s.Held.length - i) (0) ((Value.slice none 0 0)) ?_ (O8 (by rfl) ⟨rfl, rfl, rfl, rfl, rfl, trivial⟩) ?_
  ·exact Nat.zero_le _
  intro i v hinv
  refine A3 (A2 ?_)
  refine A1 rfl (J8 rfl (A0 rfl) (A0 rfl)) ?_
  refine A4 (A3 ?_)
  refine B9 (A0 rfl) ?_ ?_
  ·intro h20
   have k20 := of_decide_eq_true h20; try simp only [A8] at k20
   have hlt : i < s.Held.length := by omega
   obtain ⟨h, hx⟩ := get_some hlt
   obtain ⟨g1, g2, g3, g4, g5⟩ := Y1 hs2 hx
   refine C3 (A3 (C7 (A3 (A2 ?_))))
   refine A1 rfl (I2 rfl E4 D5 (A0 rfl) (A0 rfl) hx (by first | omega | (simp only [C8, A7, szR] at *; omega))) ?_
   refine A1 rfl (K6 rfl (A0 rfl) K3 D5) ?_
   refine F5 rfl rfl rfl rfl Tryz.zeroValue130 rfl ?_
   intro b5
   refine D2 0 rfl rfl rfl (A0 rfl) (A0 rfl) (D6 _) rfl D5 rfl ?_
   refine A4 ?_
   refine S9 5 (by kernel_rfl) (by kernel_rfl) rfl ?_
   refine B2 rfl rfl (B1 2 rfl C4 rfl G8 (A0 rfl) rfl) ?_
   refine B2 rfl rfl (B0 1 rfl (A0 rfl) rfl M5 rfl) ?_
   refine B2 rfl rfl (F1 0 rfl (A0 rfl) rfl K3 D5 rfl) ?_
   refine B2 rfl rfl (D7 rfl Tryz.call183 rfl (m6 _ (by first | assumption | omega)) (A6 (A0 rfl) C0)) ?_
   refine B2 rfl rfl (K9 rfl E4 D5 Tryz.zeroValue130 rfl rfl rfl rfl (D0 (A0 rfl) (D6 _) G9) rfl rfl) ?_
   refine P7 ?_
   refine L2 (by' := 72) 2 rfl rfl rfl rfl E4 Tryz.type130 rfl rfl rfl rfl rfl rfl (A0 rfl) (A0 rfl) rfl (by simp only [A8, D9, A7]; omega) ?_
   intro v28_4
   refine A1 rfl (B1 2 rfl C4 rfl G8 (A0 rfl) rfl) ?_
   refine T8 2 rfl fun one_v28_4 => ?_
   refine K8 1 rfl rfl rfl (A0 rfl) (A0 rfl) (U2 one_v28_4) rfl G8 rfl ?_
   refine A4 (A2 ?_)
   refine A1 rfl (G0 rfl (A0 rfl) B4 (by first | omega | (simp only [C8, A7, szR] at *; omega))) ?_
   refine A5 rfl ?_
   refine A4 ?_
   refine O2 i v (i + 1) (v28_4) ?_ ?_ (Le.trans (F8 [0, 0, 0] rfl) (K0 1 (by exact congrArg (fun z => Own.box b3 53 [AV.int s.Floor, AV.list 2 (s.Cells.map TCell.cs), AV.is v28_4, AV.is v14_3] :: Own.arr v28_4 130 5 z :: _) (Y3 (f := THeld.cs) hx)) ⟨rfl, rfl, rfl, rfl, rfl, trivial⟩))
   ·omega
   omega
  intro h20
  have k20 := of_decide_eq_false h20; try simp only [A8] at k20
  have hge : i = s.Held.length := by omega
  rw [hge, List.take_length]
  refine G1 ?_
  refine A3 (A2 ?_)
  refine A1 rfl (F1 0 rfl (A0 rfl) rfl F0 C5 rfl) ?_
  refine D2 2 rfl rfl rfl (A0 rfl) (A0 rfl) (D6 _) rfl C5 rfl ?_
  refine A4 ?_
  refine C2 ?_
  exact L5 [1, 3] (v, v14_3) (trivial) rfl (by rfl) (P0 rfl (J9 (ys := _) 2 rfl rfl F0 C5 rfl))
 refine S6 rfl rfl rfl (X4 rfl Tryz.zeroValue53 rfl) (fun a _ => (by first | exact E1 rfl | exact E1 (List.append_assoc _ _ _) | exact H6)) ?_
 intro b3 _
 refine T9 ?_
 refine S6 rfl rfl rfl (Z6 rfl I8 M1) (fun a _ => (by first | exact E1 rfl | exact E1 (List.append_assoc _ _ _) | exact H6)) ?_
 intro v11 _
 refine T9 ?_
 refine S6 rfl rfl rfl (i9 3 (fun _ => rfl) (R5 (by' := 24) 3 rfl I8 Tryz.type132 rfl rfl rfl rfl rfl rfl (A0 rfl) (A0 rfl) rfl (by simp only [N4, A8]; omega))) (fun a _ => (by first | exact E1 rfl | exact E1 (List.append_assoc _ _ _) | exact H6)) ?_
 intro v14_5 hone_v14_5
 have one_v14_5 := hone_v14_5.2
 refine D4 rfl rfl rfl (fun ext => N5 (places := #[(0, 1), (1, 1), (2, 1), (3, 1)]) rfl C4 Tryz.zeroValue53 (fun w => by kernel_rfl) rfl (D0 (A0 rfl) (L8 _ _) (D0 (A0 rfl) (O9 _ _) (D0 (A0 rfl) (U2 one_v14_5) G9))) rfl) ?_
 refine W1 ?_
 refine D2 2 rfl rfl rfl (A0 rfl) (A0 rfl) (D6 _) rfl C5 rfl ?_
 refine A4 (A3 (A3 (A2 ?_)))
 refine A1 rfl (B1 2 rfl C4 rfl G8 (A0 rfl) rfl) ?_
 refine A1 rfl (B0 1 rfl (A0 rfl) rfl M5 rfl) ?_
 refine A1 rfl (F6 rfl E4 (A0 rfl)) ?_
 refine A1 rfl (B8 rfl B4) ?_
 refine A4 (C7 ?_)
 refine W5 130 5 ?_
 refine AWP.le (F8 [3, 0] rfl) ?_
 refine P3 [(2, _), (3, _), (17, _), (18, _)] _ (fun (i : Nat) (v : Value) => i ≤ s.Held.length) (fun (i : Nat) (v : Value) => [.box b3 53 [AV.int s.Floor, AV.list 2 (s.Cells.map TCell.cs), AV.is v, AV.is v14_5], .arr v 130 5 ((s.Held.take i).map THeld.cs)]) (fun (i : Nat) (v : Value) => [(19, AV.int i)]) (fun (i : Nat) (v : Value) => s.Held.length - i) (0) ((Value.slice none 0 0)) ?_ (O8 (by rfl) ⟨rfl, rfl, rfl, rfl, rfl, trivial⟩) ?_
 ·exact Nat.zero_le _
 intro i v hinv
 refine A3 (A2 ?_)
 refine A1 rfl (J8 rfl (A0 rfl) (A0 rfl)) ?_
 refine A4 (A3 ?_)
 refine B9 (A0 rfl) ?_ ?_
 ·intro h20
  have k20 := of_decide_eq_true h20; try simp only [A8] at k20
  have hlt : i < s.Held.length := by omega
  obtain ⟨h, hx⟩ := get_some hlt
  obtain ⟨g1, g2, g3, g4, g5⟩ := Y1 hs2 hx
  refine C3 (A3 (C7 (A3 (A2 ?_))))
  refine A1 rfl (I2 rfl E4 D5 (A0 rfl) (A0 rfl) hx (by first | omega | (simp only [C8, A7, szR] at *; omega))) ?_
  refine A1 rfl (K6 rfl (A0 rfl) K3 D5) ?_
  refine F5 rfl rfl rfl rfl Tryz.zeroValue130 rfl ?_
  intro b5
  refine D2 0 rfl rfl rfl (A0 rfl) (A0 rfl) (D6 _) rfl D5 rfl ?_
  refine A4 ?_
  refine S9 5 (by kernel_rfl) (by kernel_rfl) rfl ?_
  refine B2 rfl rfl (B1 2 rfl C4 rfl G8 (A0 rfl) rfl) ?_
  refine B2 rfl rfl (B0 1 rfl (A0 rfl) rfl M5 rfl) ?_
  refine B2 rfl rfl (F1 0 rfl (A0 rfl) rfl K3 D5 rfl) ?_
  refine B2 rfl rfl (D7 rfl Tryz.call183 rfl (m6 _ (by first | assumption | omega)) (A6 (A0 rfl) C0)) ?_
  refine B2 rfl rfl (K9 rfl E4 D5 Tryz.zeroValue130 rfl rfl rfl rfl (D0 (A0 rfl) (D6 _) G9) rfl rfl) ?_
  refine P7 ?_
  refine L2 (by' := 72) 2 rfl rfl rfl rfl E4 Tryz.type130 rfl rfl rfl rfl rfl rfl (A0 rfl) (A0 rfl) rfl (by simp only [A8, D9, A7]; omega) ?_
  intro v28_6
  refine A1 rfl (B1 2 rfl C4 rfl G8 (A0 rfl) rfl) ?_
  refine T8 2 rfl fun one_v28_6 => ?_
  refine K8 1 rfl rfl rfl (A0 rfl) (A0 rfl) (U2 one_v28_6) rfl G8 rfl ?_
  refine A4 (A2 ?_)
  refine A1 rfl (G0 rfl (A0 rfl) B4 (by first | omega | (simp only [C8, A7, szR] at *; omega))) ?_
  refine A5 rfl ?_
  refine A4 ?_
  refine O2 i v (i + 1) (v28_6) ?_ ?_ (Le.trans (F8 [0, 0, 0] rfl) (K0 1 (by exact congrArg (fun z => Own.box b3 53 [AV.int s.Floor, AV.list 2 (s.Cells.map TCell.cs), AV.is v28_6, AV.is v14_5] :: Own.arr v28_6 130 5 z :: _) (Y3 (f := THeld.cs) hx)) ⟨rfl, rfl, rfl, rfl, rfl, trivial⟩))
  ·omega
  omega
 intro h20
 have k20 := of_decide_eq_false h20; try simp only [A8] at k20
 have hge : i = s.Held.length := by omega
 rw [hge, List.take_length]
 refine G1 ?_
 refine A3 (A2 ?_)
 refine A1 rfl (F1 0 rfl (A0 rfl) rfl F0 C5 rfl) ?_
 refine D2 2 rfl rfl rfl (A0 rfl) (A0 rfl) (D6 _) rfl C5 rfl ?_
 refine A4 ?_
 refine C2 ?_
 exact L5 [1, 3] (v, v14_5) (trivial) rfl (by rfl) (P0 rfl (J9 (ys := _) 2 rfl rfl F0 C5 rfl))
theorem AC3 (s : TState) (hs : s.size ≤ 1048576) : FSpec Tryz.prog 145 [AV.agg s.cs] (AV.agg s.cs) :=
  Q5 (Aw2 s hs) fun x _ => Z5 (TState.lc s x)
theorem Ab8 (l : List THeld) (n : Int) (hl : l.length ≤ 1048576) : GSpec Tryz.prog 205 [AV.list 5 (l.map THeld.cs), AV.int n] [] (fun _ : Value => True) (fun v => [.arr v 130 5 ((lessH l n).map THeld.cs)]) (fun v => AV.is v) := by
 refine H3 Tryz.func205 rfl Tryz.ntmps205 rfl ?_
 refine A3 (A2 ?_)
 refine A1 rfl (B6 rfl L4) ?_
 refine A4 (A3 (A2 ?_))
 refine S0 130 5 rfl rfl rfl rfl L4 ?_
 intro v5
 refine A4 (A3 (A3 (A2 ?_)))
 refine A5 rfl ?_
 refine A1 rfl (F6 rfl E4 (A0 rfl)) ?_
 refine A1 rfl (B8 rfl B4) ?_
 refine A4 (C7 ?_)
 refine d7 [(1, _), (4, _), (8, _), (9, _)] _ (fun (i : Nat) (v : Value) (q : List THeld) => i ≤ l.length ∧ q = lessH (l.take i) n ∧ q.length ≤ i) (fun (i : Nat) (v : Value) (q : List THeld) => [.arr v 130 5 (q.map THeld.cs)]) (fun (i : Nat) (v : Value) (q : List THeld) => [(5, AV.is v), (10, AV.int i)]) (fun (i : Nat) (v : Value) (q : List THeld) => l.length - i) (0) (v5) ([]) ?_ (O8 (by rfl) ⟨rfl, rfl, rfl, rfl, rfl, rfl, trivial⟩) ?_
 ·exact ⟨Nat.zero_le _, rfl, Nat.le_refl _⟩
 intro i v q hinv
 refine A3 (A2 ?_)
 refine A1 rfl (J8 rfl (A0 rfl) (A0 rfl)) ?_
 refine A4 (A3 ?_)
 refine B9 (A0 rfl) ?_ ?_
 ·intro h11
  have k11 := of_decide_eq_true h11; try simp only [A8] at k11
  have hlt : i < l.length := by omega
  obtain ⟨h, hx⟩ := get_some hlt
  refine C3 (A3 (C7 (A3 (A2 ?_))))
  refine A1 rfl (I2 rfl E4 D5 (A0 rfl) (A0 rfl) hx (by first | omega | (simp only [C8, A7, szR] at *; omega))) ?_
  refine A1 rfl (K6 rfl (A0 rfl) K3 D5) ?_
  refine F5 rfl rfl rfl rfl Tryz.zeroValue130 rfl ?_
  intro b7
  refine D2 0 rfl rfl rfl (A0 rfl) (A0 rfl) (D6 _) rfl D5 rfl ?_
  refine A4 (A3 (A2 ?_))
  refine A1 rfl (B1 0 rfl G2 rfl B5 (A0 rfl) rfl) ?_
  refine A1 rfl (B0 0 rfl (A0 rfl) rfl C6 rfl) ?_
  refine A5 rfl ?_
  refine A1 rfl (Z7 rfl (A0 rfl) (A0 rfl)) ?_
  refine A4 ?_
  refine B9 (A0 rfl) ?_ ?_
  ·intro h17
   have k17 := l0 h17; try simp only [A8] at k17
   refine A2 ?_
   refine A5 rfl ?_
   refine A1 rfl (F1 0 rfl (A0 rfl) rfl K3 D5 rfl) ?_
   refine A1 rfl (K9 rfl E4 D5 Tryz.zeroValue130 rfl rfl rfl rfl (D0 (A0 rfl) (D6 _) G9) rfl rfl) ?_
   refine L2 (by' := 72) 1 rfl rfl rfl rfl E4 Tryz.type130 rfl rfl rfl rfl rfl rfl (A0 rfl) (A0 rfl) rfl (by first | omega | (simp only [C8, A7, szR] at *; omega)) ?_
   intro v21_1
   refine B3 rfl ?_
   refine A4 (A2 ?_)
   refine A1 rfl (G0 rfl (A0 rfl) B4 (by first | omega | (simp only [C8, A7, szR] at *; omega))) ?_
   refine A5 rfl ?_
   refine A4 ?_
   refine Z0 i v q (i + 1) (v21_1) (q ++ [h]) ?_ ?_ (Le.trans (F8 [0, 0] rfl) (K0 1 (by first | rfl | (rw [List.map_append]; rfl)) ⟨rfl, rfl, rfl, rfl, rfl, rfl, trivial⟩))
   ·first | exact ⟨by omega, by rw [AH6 hx, if_pos h17, hinv.2.1], by rw [J6]; simp; omega⟩ | exact ⟨by omega, by rw [AH6 hx, if_neg (by rw [h17]; decide), hinv.2.1], by omega⟩
   omega
  intro h17
  have k17 := X7 h17; try simp only [A8] at k17
  refine C3 (A2 ?_)
  refine A1 rfl (G0 rfl (A0 rfl) B4 (by first | omega | (simp only [C8, A7, szR] at *; omega))) ?_
  refine A5 rfl ?_
  refine A4 ?_
  refine Z0 i v q (i + 1) (v) (q) ?_ ?_ (Le.trans (F8 [0, 0] rfl) (K0 1 (by first | rfl | (rw [List.map_append]; rfl)) ⟨rfl, rfl, rfl, rfl, rfl, rfl, trivial⟩))
  ·first | exact ⟨by omega, by rw [AH6 hx, if_pos h17, hinv.2.1], by rw [J6]; simp; omega⟩ | exact ⟨by omega, by rw [AH6 hx, if_neg (by rw [h17]; decide), hinv.2.1], by omega⟩
  omega
 intro h11
 have k11 := of_decide_eq_false h11; try simp only [A8] at k11
 have hge : l.length ≤ i := by omega
 have hq := hinv.2.1
 rw [List.take_of_length_le hge] at hq
 rw [← hq]
 refine G1 ?_
 refine A3 (A2 ?_)
 refine A5 rfl ?_
 refine B3 rfl ?_
 refine A4 ?_
 refine C2 ?_
 exact L5 [0] v (trivial) rfl (by rfl) (P0 rfl (C1 rfl (by rfl)))
theorem An2 (l : List THeld) (n : Int) (hl : l.length ≤ 1048576) : FSpec Tryz.prog 205 [AV.list 5 (l.map THeld.cs), AV.int n] (AV.list 5 ((lessH l n).map THeld.cs)) :=
  Q5 (Ab8 l n hl) fun x _ => M8 (List.mem_singleton.2 rfl) I7
theorem put_csH (l : List THeld) (k : Nat) (x : THeld) : (l.take k ++ x :: l.drop k).map THeld.cs = [] ++ (l.take (k : Int).toNat).map THeld.cs ++ [x.cs] ++ ([] ++ (l.drop (k : Int).toNat).map THeld.cs) := by simp
theorem AZ3 (l : List THeld) (h : THeld) (hs : l.Pairwise fun a b => a.Txn < b.Txn) (hl : l.length ≤ 1048576) : GSpec Tryz.prog 202 [AV.list 5 (l.map THeld.cs), AV.agg h.cs] [] (fun _ : Value => True) (fun v => [.arr v 130 5 ((insH h l).map THeld.cs)]) (fun v => AV.is v) := by
 refine H3 Tryz.func202 rfl Tryz.ntmps202 rfl ?_
 refine A3 (A2 ?_)
 refine N1 rfl rfl rfl rfl (A0 rfl) ?_
 intro b3
 refine A1 rfl (B6 rfl L4) ?_
 refine A4 (A3 (A2 ?_))
 refine A5 rfl ?_
 refine A1 rfl (F6 rfl E4 (A0 rfl)) ?_
 refine B3 rfl ?_
 refine A4 (A3 (C7 ?_))
 refine J0 [(0, _), (3, _), (4, _)] _ (fun (k : Nat) => k ≤ l.length ∧ ∀ i y, k ≤ i → l[i]? = some y → h.Txn < y.Txn) (fun (k : Nat) => []) (fun (k : Nat) => [(5, AV.int k)]) (fun (k : Nat) => k) (l.length) ?_ (K2 ⟨congrArg (fun z => some (AV.int z)) (by rw [A8]), rfl, rfl, rfl, trivial⟩) ?_
 ·exact ⟨Nat.le_refl _, fun i y h1 h2 => by (have := (List.getElem?_eq_some_iff.1 h2).1; omega)⟩
 intro k hinv
 obtain ⟨y, hy0⟩ : ∃ y : THeld, 0 < k → l[k - 1]? = some y := by (by_cases h9 : 0 < k; (have h8 := hinv.1; exact ⟨_, fun _ => List.getElem?_eq_getElem (show k - 1 < l.length by omega)⟩); exact ⟨h, fun h8 => absurd h8 h9⟩)
 have hk1 : 0 < k → ((k : Int) - 1).toNat = k - 1 := fun _ => by omega
 refine A3 (A3 ?_)
 refine L1 (by kernel_rfl) (by kernel_rfl) rfl ?_
 refine B2 rfl rfl (B8 rfl (A0 rfl)) ?_
 refine B2 rfl rfl (R8 rfl (A0 rfl) B4) ?_
 refine B2 rfl rfl (B8 rfl (A0 rfl)) ?_
 refine E0 rfl (I9 rfl rfl rfl) (fun hc => B8 rfl (A0 rfl)) ?_
 refine E0 rfl (I9 rfl rfl rfl) (fun hc => B8 rfl (A0 rfl)) ?_
 refine E0 rfl (I9 rfl rfl rfl) (fun hc => R7 rfl (A9 rfl hc) B4 (by first | omega | ((try simp only [C8, A7, szR] at *); omega) | (have hc2 := hc; simp only [Q0, beq_iff_eq, bne_iff_ne, A8, D9] at hc2; omega))) ?_
 refine E0 rfl (I9 rfl rfl rfl) (fun hc => n4 rfl E4 D5 (A9 rfl hc) (A9 rfl hc) (by have := of_decide_eq_true hc; have := hinv.1; omega) (by have h9 := of_decide_eq_true hc; rw [hk1 (by omega), List.getElem?_map, hy0 (by omega)]; rfl)) ?_
 refine E0 rfl (I9 rfl rfl rfl) (fun hc => X1 rfl G2 rfl B5 (A9 rfl hc) rfl) ?_
 refine E0 rfl (I9 rfl rfl rfl) (fun hc => L6 rfl (A9 rfl hc) C6 rfl) ?_
 refine E0 rfl (I9 rfl rfl rfl) (fun hc => B1 0 rfl G2 rfl B5 (A0 rfl) rfl) ?_
 refine E0 rfl (I9 rfl rfl rfl) (fun hc => B0 0 rfl (A9 rfl hc) rfl C6 rfl) ?_
 refine E0 rfl (I9 rfl rfl rfl) (fun hc => R8 rfl (A9 rfl hc) (A9 rfl hc)) ?_
 refine B2 rfl rfl (J5 rfl (A0 rfl) (F7 rfl)) ?_
 refine P7 ?_
 refine B9 (A0 rfl) ?_ ?_
 ·intro h21
  have hkt : 0 < k ∧ h.Txn < y.Txn := by simpa using h21
  refine C3 (C7 (A2 ?_))
  refine A5 rfl ?_
  refine A1 rfl (R7 rfl (A0 rfl) B4 (by first | omega | (simp only [C8, A7, szR] at *; omega))) ?_
  refine B3 rfl ?_
  refine A4 ?_
  refine m3 ?_
  refine K4 k (k - 1) ?_ ?_ (K2 ⟨congrArg (fun z => some (AV.int z)) (by omega), rfl, rfl, rfl, trivial⟩)
  ·exact ⟨by omega, fun i z hi hz => if e : k ≤ i then hinv.2 i z e hz else (by have e2 : i = k - 1 := (by omega); subst e2; rw [hy0 hkt.1] at hz; injection hz with hz; subst hz; exact hkt.2)⟩
  omega
 intro h21
 have hng : 0 < k → ¬ h.Txn < y.Txn := fun h9 => by simpa [h9] using h21
 have hput : insH h l = l.take k ++ h :: l.drop k := Am4 hinv.1 (fun i x hi hx => by have h7 := hy0 (by omega); have h8 := hng (by omega); rcases Nat.lt_or_ge i (k - 1) with h6 | h6; (have := AX0 (f := THeld.Txn) hs h6 hx h7; omega); (have : i = k - 1 := (by omega); subst this; rw [hx] at h7; injection h7 with h7; subst h7; omega)) (fun x hx => hinv.2 k x (Nat.le_refl _) hx)
 rw [hput]
 refine G1 ?_
 refine A3 (A2 ?_)
 refine U6 rfl rfl rfl rfl E4 D5 ?_
 intro v24
 refine A5 rfl ?_
 refine A5 rfl ?_
 refine A1 rfl (AB5 rfl E4 D5 (A0 rfl) (A0 rfl) (by omega) (by first | omega | (simp only [A8]; omega))) ?_
 refine L2 (by' := 72) 0 rfl rfl rfl rfl E4 Tryz.type130 rfl rfl rfl rfl rfl rfl (A0 rfl) (A0 rfl) rfl (by simp only [N4, A8, List.length_drop]; omega) ?_
 intro v28_1
 refine B3 rfl ?_
 refine A4 (A3 ?_)
 refine AWP.le (X6 [0] 6 rfl rfl (M8 (F9 (i := 0) rfl) I7) O3) ?_
 refine V3 _ [(1, false), (2, false), (3, false), (5, false), (6, false), (8, false), (0, true), (4, true), (7, true), (9, true)] (by kernel_rfl) (by kernel_rfl) rfl i6 ?_
 refine H7 rfl rfl rfl (fun ext => B8 rfl (A0 rfl)) ?_
 refine H7 rfl rfl rfl (fun ext => B8 rfl (A0 rfl)) ?_
 refine H7 rfl rfl rfl (fun ext => m8 rfl E4 D5 (A0 rfl) (A0 rfl) (by omega) (by first | omega | (simp only [A8]; omega))) ?_
 refine H7 rfl rfl rfl (fun ext => F1 0 rfl (A0 rfl) rfl K3 D5 rfl) ?_
 refine H7 rfl rfl rfl (fun ext => K9 rfl E4 D5 Tryz.zeroValue130 rfl rfl rfl rfl (D0 (A0 rfl) (D6 _) G9) rfl rfl) ?_
 refine H7 rfl rfl rfl (fun ext => B8 rfl (A0 rfl)) ?_
 refine V4 rfl rfl rfl (Z6 rfl E4 D5) (fun a _ => (by first | exact E1 rfl | exact E1 (List.append_assoc _ _ _) | exact H6)) ?_
 intro v29 _
 refine V4 rfl rfl rfl (R5 (by' := 72) 1 rfl E4 Tryz.type130 rfl rfl rfl rfl rfl rfl (A0 rfl) (A0 rfl) rfl (by simp only [N4, List.nil_append, J6, D9, List.length_drop, I5, A8, A7]; omega)) (fun a _ => (by first | exact E1 rfl | exact E1 (List.append_assoc _ _ _) | exact H6)) ?_
 intro v33_2 _
 refine V4 rfl rfl rfl (R5 (by' := 72) 1 rfl E4 Tryz.type130 rfl rfl rfl rfl rfl rfl (A0 rfl) (A0 rfl) rfl (by simp only [N4, List.nil_append, J6, D9, List.length_drop, I5, A8, A7]; omega)) (fun a _ => (by first | exact E1 rfl | exact E1 (List.append_assoc _ _ _) | exact H6)) ?_
 intro v36_3 _
 refine V4 rfl rfl rfl (R5 (by' := 72) 1 rfl E4 Tryz.type130 rfl rfl rfl rfl rfl rfl (A0 rfl) (A0 rfl) rfl (by simp only [N4, List.nil_append, J6, D9, List.length_drop, I5, A8, A7]; omega)) (fun a _ => (by first | exact E1 rfl | exact E1 (List.append_assoc _ _ _) | exact H6)) ?_
 intro v38_4 _
 refine l4 ?_
 refine B3 rfl ?_
 refine A4 ?_
 refine C2 ?_
 exact L5 [1] v38_4 (trivial) rfl (by first | rfl | exact congrArg (fun z => [Own.arr _ 130 5 z]) (put_csH _ _ _)) (P0 rfl (C1 rfl (by rfl)))
theorem Aw3 (l : List THeld) (h : THeld) (hs : l.Pairwise fun a b => a.Txn < b.Txn) (hl : l.length ≤ 1048576) : FSpec Tryz.prog 202 [AV.list 5 (l.map THeld.cs), AV.agg h.cs] (AV.list 5 ((insH h l).map THeld.cs)) :=
  Q5 (AZ3 l h hs hl) fun x _ => M8 (List.mem_singleton.2 rfl) I7
theorem put_csT (l : List TTold) (k : Nat) (x : TTold) : (l.take k ++ x :: l.drop k).map TTold.cs = [] ++ (l.take (k : Int).toNat).map TTold.cs ++ [x.cs] ++ ([] ++ (l.drop (k : Int).toNat).map TTold.cs) := by simp
theorem AJ2 (l : List TTold) (h : TTold) (hs : l.Pairwise fun a b => a.Txn < b.Txn) (hl : l.length ≤ 1048576) : GSpec Tryz.prog 206 [AV.list 3 (l.map TTold.cs), AV.agg h.cs] [] (fun _ : Value => True) (fun v => [.arr v 132 3 ((insT h l).map TTold.cs)]) (fun v => AV.is v) := by
 refine H3 Tryz.func206 rfl Tryz.ntmps206 rfl ?_
 refine A3 (A2 ?_)
 refine N1 rfl rfl rfl rfl (A0 rfl) ?_
 intro b3
 refine A1 rfl (B6 rfl L4) ?_
 refine A4 (A3 (A2 ?_))
 refine A5 rfl ?_
 refine A1 rfl (F6 rfl I8 (A0 rfl)) ?_
 refine B3 rfl ?_
 refine A4 (A3 (C7 ?_))
 refine J0 [(0, _), (3, _), (4, _)] _ (fun (k : Nat) => k ≤ l.length ∧ ∀ i y, k ≤ i → l[i]? = some y → h.Txn < y.Txn) (fun (k : Nat) => []) (fun (k : Nat) => [(5, AV.int k)]) (fun (k : Nat) => k) (l.length) ?_ (K2 ⟨congrArg (fun z => some (AV.int z)) (by rw [A8]), rfl, rfl, rfl, trivial⟩) ?_
 ·exact ⟨Nat.le_refl _, fun i y h1 h2 => by (have := (List.getElem?_eq_some_iff.1 h2).1; omega)⟩
 intro k hinv
 obtain ⟨y, hy0⟩ : ∃ y : TTold, 0 < k → l[k - 1]? = some y := by (by_cases h9 : 0 < k; (have h8 := hinv.1; exact ⟨_, fun _ => List.getElem?_eq_getElem (show k - 1 < l.length by omega)⟩); exact ⟨h, fun h8 => absurd h8 h9⟩)
 have hk1 : 0 < k → ((k : Int) - 1).toNat = k - 1 := fun _ => by omega
 refine A3 (A3 ?_)
 refine L1 (by kernel_rfl) (by kernel_rfl) rfl ?_
 refine B2 rfl rfl (B8 rfl (A0 rfl)) ?_
 refine B2 rfl rfl (R8 rfl (A0 rfl) B4) ?_
 refine B2 rfl rfl (B8 rfl (A0 rfl)) ?_
 refine E0 rfl (I9 rfl rfl rfl) (fun hc => B8 rfl (A0 rfl)) ?_
 refine E0 rfl (I9 rfl rfl rfl) (fun hc => B8 rfl (A0 rfl)) ?_
 refine E0 rfl (I9 rfl rfl rfl) (fun hc => R7 rfl (A9 rfl hc) B4 (by first | omega | ((try simp only [C8, A7, szR] at *); omega) | (have hc2 := hc; simp only [Q0, beq_iff_eq, bne_iff_ne, A8, D9] at hc2; omega))) ?_
 refine E0 rfl (I9 rfl rfl rfl) (fun hc => n4 rfl I8 M1 (A9 rfl hc) (A9 rfl hc) (by have := of_decide_eq_true hc; have := hinv.1; omega) (by have h9 := of_decide_eq_true hc; rw [hk1 (by omega), List.getElem?_map, hy0 (by omega)]; rfl)) ?_
 refine E0 rfl (I9 rfl rfl rfl) (fun hc => X1 rfl M9 rfl B5 (A9 rfl hc) rfl) ?_
 refine E0 rfl (I9 rfl rfl rfl) (fun hc => L6 rfl (A9 rfl hc) C6 rfl) ?_
 refine E0 rfl (I9 rfl rfl rfl) (fun hc => B1 0 rfl M9 rfl B5 (A0 rfl) rfl) ?_
 refine E0 rfl (I9 rfl rfl rfl) (fun hc => B0 0 rfl (A9 rfl hc) rfl C6 rfl) ?_
 refine E0 rfl (I9 rfl rfl rfl) (fun hc => R8 rfl (A9 rfl hc) (A9 rfl hc)) ?_
 refine B2 rfl rfl (J5 rfl (A0 rfl) (F7 rfl)) ?_
 refine P7 ?_
 refine B9 (A0 rfl) ?_ ?_
 ·intro h21
  have hkt : 0 < k ∧ h.Txn < y.Txn := by simpa using h21
  refine C3 (C7 (A2 ?_))
  refine A5 rfl ?_
  refine A1 rfl (R7 rfl (A0 rfl) B4 (by first | omega | (simp only [C8, A7, szR] at *; omega))) ?_
  refine B3 rfl ?_
  refine A4 ?_
  refine m3 ?_
  refine K4 k (k - 1) ?_ ?_ (K2 ⟨congrArg (fun z => some (AV.int z)) (by omega), rfl, rfl, rfl, trivial⟩)
  ·exact ⟨by omega, fun i z hi hz => if e : k ≤ i then hinv.2 i z e hz else (by have e2 : i = k - 1 := (by omega); subst e2; rw [hy0 hkt.1] at hz; injection hz with hz; subst hz; exact hkt.2)⟩
  omega
 intro h21
 have hng : 0 < k → ¬ h.Txn < y.Txn := fun h9 => by simpa [h9] using h21
 have hput : insT h l = l.take k ++ h :: l.drop k := Am5 hinv.1 (fun i x hi hx => by have h7 := hy0 (by omega); have h8 := hng (by omega); rcases Nat.lt_or_ge i (k - 1) with h6 | h6; (have := AX0 (f := TTold.Txn) hs h6 hx h7; omega); (have : i = k - 1 := (by omega); subst this; rw [hx] at h7; injection h7 with h7; subst h7; omega)) (fun x hx => hinv.2 k x (Nat.le_refl _) hx)
 rw [hput]
 refine G1 ?_
 refine A3 (A2 ?_)
 refine U6 rfl rfl rfl rfl I8 M1 ?_
 intro v24
 refine A5 rfl ?_
 refine A5 rfl ?_
 refine A1 rfl (AB5 rfl I8 M1 (A0 rfl) (A0 rfl) (by omega) (by first | omega | (simp only [A8]; omega))) ?_
 refine L2 (by' := 24) 0 rfl rfl rfl rfl I8 Tryz.type132 rfl rfl rfl rfl rfl rfl (A0 rfl) (A0 rfl) rfl (by simp only [N4, A8, List.length_drop]; omega) ?_
 intro v28_1
 refine B3 rfl ?_
 refine A4 (A3 ?_)
 refine AWP.le (X6 [0] 6 rfl rfl (M8 (F9 (i := 0) rfl) I7) O3) ?_
 refine V3 _ [(1, false), (2, false), (3, false), (5, false), (6, false), (8, false), (0, true), (4, true), (7, true), (9, true)] (by kernel_rfl) (by kernel_rfl) rfl i6 ?_
 refine H7 rfl rfl rfl (fun ext => B8 rfl (A0 rfl)) ?_
 refine H7 rfl rfl rfl (fun ext => B8 rfl (A0 rfl)) ?_
 refine H7 rfl rfl rfl (fun ext => m8 rfl I8 M1 (A0 rfl) (A0 rfl) (by omega) (by first | omega | (simp only [A8]; omega))) ?_
 refine H7 rfl rfl rfl (fun ext => F1 0 rfl (A0 rfl) rfl Y9 M1 rfl) ?_
 refine H7 rfl rfl rfl (fun ext => K9 rfl I8 M1 Tryz.zeroValue132 rfl rfl rfl rfl (D0 (A0 rfl) (D6 _) G9) rfl rfl) ?_
 refine H7 rfl rfl rfl (fun ext => B8 rfl (A0 rfl)) ?_
 refine V4 rfl rfl rfl (Z6 rfl I8 M1) (fun a _ => (by first | exact E1 rfl | exact E1 (List.append_assoc _ _ _) | exact H6)) ?_
 intro v29 _
 refine V4 rfl rfl rfl (R5 (by' := 24) 1 rfl I8 Tryz.type132 rfl rfl rfl rfl rfl rfl (A0 rfl) (A0 rfl) rfl (by simp only [N4, List.nil_append, J6, D9, List.length_drop, I5, A8, A7]; omega)) (fun a _ => (by first | exact E1 rfl | exact E1 (List.append_assoc _ _ _) | exact H6)) ?_
 intro v33_2 _
 refine V4 rfl rfl rfl (R5 (by' := 24) 1 rfl I8 Tryz.type132 rfl rfl rfl rfl rfl rfl (A0 rfl) (A0 rfl) rfl (by simp only [N4, List.nil_append, J6, D9, List.length_drop, I5, A8, A7]; omega)) (fun a _ => (by first | exact E1 rfl | exact E1 (List.append_assoc _ _ _) | exact H6)) ?_
 intro v36_3 _
 refine V4 rfl rfl rfl (R5 (by' := 24) 1 rfl I8 Tryz.type132 rfl rfl rfl rfl rfl rfl (A0 rfl) (A0 rfl) rfl (by simp only [N4, List.nil_append, J6, D9, List.length_drop, I5, A8, A7]; omega)) (fun a _ => (by first | exact E1 rfl | exact E1 (List.append_assoc _ _ _) | exact H6)) ?_
 intro v38_4 _
 refine l4 ?_
 refine B3 rfl ?_
 refine A4 ?_
 refine C2 ?_
 exact L5 [1] v38_4 (trivial) rfl (by first | rfl | exact congrArg (fun z => [Own.arr _ 132 3 z]) (put_csT _ _ _)) (P0 rfl (C1 rfl (by rfl)))
theorem AV0 (l : List TTold) (h : TTold) (hs : l.Pairwise fun a b => a.Txn < b.Txn) (hl : l.length ≤ 1048576) : FSpec Tryz.prog 206 [AV.list 3 (l.map TTold.cs), AV.agg h.cs] (AV.list 3 ((insT h l).map TTold.cs)) :=
  Q5 (AJ2 l h hs hl) fun x _ => M8 (List.mem_singleton.2 rfl) I7
theorem AZ4 (l : List TCell) (w : List TWrite) (t : Int) (ho : CellsOk l) (hs : sizeL TCell.size l ≤ 1048576) (hw : sizeL TWrite.size w ≤ 1048576) (ht1 : 1 ≤ t) : FSpec Tryz.prog 204 [AV.list 2 (l.map TCell.cs), AV.list 3 (w.map TWrite.cs), AV.int t] (AV.tup [AV.list 2 ((putP l w t).1.map TCell.cs), AV.bool (putP l w t).2]) :=
  Q5 (BM9 l w t ho hs hw ht1) fun x h => AJ7 (G4 (AF2 TCell.lcM h 0 rfl fun o ho => List.mem_cons_of_mem _ ho) (G4 M4 U3))
theorem m7 (l : List Str) (hl : l.length ≤ 4194304) : FSpec Tryz.prog 52 [strs l] (strs l) :=
  Q5 (AD5 l hl) fun x _ => M8 (List.mem_singleton.2 rfl) I7
theorem AV1 (a b : Int) : FSpec Tryz.prog 188 [AV.int a, AV.int b] (AV.int (if a < b then b else a)) := by
 refine E2 Tryz.func188 rfl Tryz.ntmps188 rfl ?_
 refine A3 (A2 ?_)
 refine A1 rfl (B6 rfl B4) ?_
 refine A4 (A3 (A3 (A2 ?_)))
 refine A5 rfl ?_
 refine A5 rfl ?_
 refine A1 rfl (R8 rfl (A0 rfl) (A0 rfl)) ?_
 refine A4 ?_
 refine B9 (A0 rfl) ?_ ?_
 ·intro h7
  have k7 := of_decide_eq_true h7; try simp only [A8] at k7
  have h9 := of_decide_eq_true h7
  refine A3 (A2 ?_)
  refine A5 rfl ?_
  refine B3 rfl ?_
  refine A4 ?_
  refine C2 ?_
  exact I3 rfl (C1 rfl (by exact congrArg AV.int (by split <;> omega)))
 intro h7
 have k7 := of_decide_eq_false h7; try simp only [A8] at k7
 have h9 := of_decide_eq_false h7
 refine C3 (A3 (A2 ?_))
 refine A5 rfl ?_
 refine B3 rfl ?_
 refine A4 ?_
 refine C2 ?_
 exact I3 rfl (C1 rfl (by exact congrArg AV.int (by split <;> omega)))
theorem BA6 (s : TState) (r : TRec) (g : SO s) (hs : s.size ≤ 300000) (hrs : r.size ≤ 300000) : FSpec Tryz.prog 189 [AV.agg s.cs, AV.agg r.cs] (AV.tup [AV.agg (applyS s r).1.cs, AV.bool (applyS s r).2]) := by
 obtain ⟨hs1, hs2, hs3, hs4, hs5⟩ := X0 hs
 have hgc := g.cells
 have hgh := g.hsort
 have hgt := g.tsort
 have hr2 : r.size = sizeL (fun x : Str => x.length) r.Reads + sizeL TWrite.size r.Writes := rfl
 have hr3 := O4 (f := fun x : Str => x.length) (l := r.Reads)
 have hr4 := O4 (f := TWrite.size) (l := r.Writes)
 have hho := AH5 s.Held r.Txn
 have hto := An1 s.Told r.Txn
 obtain ⟨h, hh⟩ : ∃ h, (heldFO s.Held r.Txn).1 = h := ⟨_, rfl⟩
 have hf1 : hasH s.Held r.Txn = true → findH s.Held r.Txn = some h := fun e => by
  rw [← hho] at e
  unfold heldFO at hh e
  cases hf : findH s.Held r.Txn with
  | none => rw [hf] at e; cases e
  | some x => rw [hf] at hh; exact congrArg some hh
 have hf0 : hasH s.Held r.Txn = false → findH s.Held r.Txn = none := fun e => AO3.2 e
 have hhs : hasH s.Held r.Txn = true → h.size ≤ 300000 ∧ 1 ≤ h.Time := fun e => by
  obtain ⟨h1, h2⟩ := AD4 (hf1 e)
  obtain ⟨i, hi⟩ := List.getElem?_of_mem h1
  exact ⟨(Y1 hs2 hi).1, g.times h h1⟩
 have hlen := AJ0 s.Held r.Txn
 have hll : (lessH s.Held r.Txn).length ≤ s.Held.length := List.length_filter_le _ _
 refine E2 Tryz.func189 rfl Tryz.ntmps189 rfl ?_
 refine A3 (A2 ?_)
 refine N1 rfl rfl rfl rfl (A0 rfl) ?_
 intro b2
 refine N1 rfl rfl rfl rfl (A0 rfl) ?_
 intro b3
 refine F5 rfl rfl rfl rfl Tryz.zeroValue53 rfl ?_
 intro b4
 refine A1 rfl (B6 rfl E9) ?_
 refine A4 (A3 (A2 ?_))
 refine A1 rfl (F1 2 rfl (A0 rfl) rfl F0 C5 rfl) ?_
 refine A1 rfl (D7 rfl Tryz.call145 rfl (AC3 s (by omega)) (A6 (A0 rfl) C0)) ?_
 refine F5 rfl rfl rfl rfl Tryz.zeroValue53 rfl ?_
 intro b6
 refine D2 0 rfl rfl rfl (A0 rfl) (A0 rfl) (D6 _) rfl C5 rfl ?_
 refine A4 (A3 (A2 ?_))
 refine A1 rfl (F1 3 rfl (A0 rfl) rfl F0 C5 rfl) ?_
 refine A1 rfl (B1 1 rfl B7 rfl B5 (A0 rfl) rfl) ?_
 refine A1 rfl (B0 2 rfl (A0 rfl) rfl C6 rfl) ?_
 refine A1 rfl (D7 rfl Tryz.call120 rfl (AF5 s r.Txn (by omega)) (A6 (A0 rfl) (A6 (A0 rfl) C0))) ?_
 refine A5 rfl ?_
 refine A1 rfl (G6 rfl (A0 rfl) rfl) ?_
 refine A1 rfl (G6 rfl (A0 rfl) rfl) ?_
 refine F5 rfl rfl rfl rfl Tryz.zeroValue130 rfl ?_
 intro b7
 refine D2 0 rfl rfl rfl (A0 rfl) (A0 rfl) (D6 _) rfl D5 rfl ?_
 refine B3 rfl ?_
 refine A4 (A3 (A2 ?_))
 refine A1 rfl (F1 4 rfl (A0 rfl) rfl F0 C5 rfl) ?_
 refine A1 rfl (B1 1 rfl B7 rfl B5 (A0 rfl) rfl) ?_
 refine A1 rfl (B0 3 rfl (A0 rfl) rfl C6 rfl) ?_
 refine A1 rfl (D7 rfl Tryz.call184 rfl (AF6 s r.Txn (by omega)) (A6 (A0 rfl) (A6 (A0 rfl) C0))) ?_
 refine A5 rfl ?_
 refine A1 rfl (G6 rfl (A0 rfl) rfl) ?_
 refine A1 rfl (G6 rfl (A0 rfl) rfl) ?_
 refine F5 rfl rfl rfl rfl Tryz.zeroValue132 rfl ?_
 intro b9
 refine D2 0 rfl rfl rfl (A0 rfl) (A0 rfl) (D6 _) rfl M1 rfl ?_
 refine B3 rfl ?_
 refine A4 (A3 (C7 (A3 ?_)))
 rw [hh]
 rw [hho, hto]
 refine A2 ?_
 refine A1 rfl (B1 0 rfl B7 rfl B5 (A0 rfl) rfl) ?_
 refine A1 rfl (B0 4 rfl (A0 rfl) rfl C6 rfl) ?_
 refine A1 rfl (O1 rfl (A0 rfl) B4) ?_
 refine B3 rfl ?_
 refine A4 ?_
 refine B9 (A0 rfl) ?_ ?_
 ·intro h29
  have k29 := M7 h29; try simp only [A8] at k29
  have hk : r.Kind = 4 := by simpa using h29
  have he : applyS s r = (⟨r.Time, s.Cells, s.Held, s.Told⟩, decide (s.Floor < r.Time)) := by (unfold applyS; rw [if_pos hk])
  rw [he]
  refine A3 (A2 ?_)
  refine A1 rfl (B1 2 rfl B7 rfl B5 (A0 rfl) rfl) ?_
  refine A1 rfl (B0 4 rfl (A0 rfl) rfl C6 rfl) ?_
  refine A1 rfl (B1 0 rfl C4 rfl B5 (A0 rfl) rfl) ?_
  refine K8 2 rfl rfl rfl (A0 rfl) (A0 rfl) (L8 _ _) rfl B5 rfl ?_
  refine A4 (A3 ?_)
  refine AWP.le (F8 [2, 3, 3] rfl) ?_
  refine Q2 _ 7 (.pure 0 (.pure 1 (.pure 2 (.pure 3 (.pure 4 (.pure 5 (.e1 6 .nil))))))) (by kernel_rfl) (by kernel_rfl) rfl (V2 3) ?_
  refine D4 rfl rfl rfl (fun ext => F1 0 rfl (A0 rfl) rfl F0 C5 rfl) ?_
  refine D4 rfl rfl rfl (fun ext => B1 2 rfl B7 rfl B5 (A0 rfl) rfl) ?_
  refine D4 rfl rfl rfl (fun ext => B0 1 rfl (A0 rfl) rfl C6 rfl) ?_
  refine D4 rfl rfl rfl (fun ext => B1 0 rfl C4 rfl B5 (A0 rfl) rfl) ?_
  refine D4 rfl rfl rfl (fun ext => B0 2 rfl (A0 rfl) rfl C6 rfl) ?_
  refine D4 rfl rfl rfl (fun ext => R8 rfl (A0 rfl) (A0 rfl)) ?_
  refine T9 ?_
  refine j5 rfl rfl rfl (W7 5 rfl rfl (A0 rfl) (A0 rfl) (D6 _) rfl C5 rfl) (fun a _ => (by first | exact E1 rfl | exact E1 (List.append_assoc _ _ _) | exact H6)) ?_
  intro _ _
  refine W1 ?_
  refine B3 rfl ?_
  refine A4 ?_
  refine C2 ?_
  exact X8 rfl (by decide) (E7 (J9 (ys := _) 5 rfl rfl F0 C5 rfl) (E7 (C1 rfl (by rfl)) M0))
 intro h29
 have k29 := M6 h29; try simp only [A8] at k29
 have hk4 : r.Kind ≠ 4 := by simpa using h29
 refine A3 (A2 ?_)
 refine A5 rfl ?_
 refine B3 rfl ?_
 refine A4 ?_
 refine B9 (A0 rfl) ?_ ?_
 ·intro h42
  have he : applyS s r = (s, false) := by (unfold applyS; rw [if_neg hk4, if_pos h42])
  rw [he]
  refine A3 (A2 ?_)
  refine A1 rfl (F1 2 rfl (A0 rfl) rfl F0 C5 rfl) ?_
  refine D2 3 rfl rfl rfl (A0 rfl) (A0 rfl) (D6 _) rfl C5 rfl ?_
  refine A1 rfl (B6 rfl E9) ?_
  refine A4 ?_
  refine C2 ?_
  exact X8 rfl (by decide) (E7 (J9 (ys := _) 3 rfl rfl F0 C5 rfl) (E7 (C1 rfl (by rfl)) M0))
 intro h42
 have hT : hasT s.Told r.Txn = false := h42
 have hnT : ¬ hasT s.Told r.Txn = true := by (rw [hT]; decide)
 refine A3 (A2 ?_)
 refine A1 rfl (B1 0 rfl B7 rfl B5 (A0 rfl) rfl) ?_
 refine A1 rfl (B0 4 rfl (A0 rfl) rfl C6 rfl) ?_
 refine A1 rfl (O1 rfl (A0 rfl) B4) ?_
 refine B3 rfl ?_
 refine A4 ?_
 refine B9 (A0 rfl) ?_ ?_
 ·intro h45
  have k45 := M7 h45; try simp only [A8] at k45
  have hk1 : r.Kind = 1 := by simpa using h45
  have he : applyS s r = (⟨r.Time, s.Cells, insH (hOf r) s.Held, s.Told⟩, (!hasH s.Held r.Txn && decide (s.Floor < r.Time)) && fits s r.Reads r.Writes) := by (unfold applyS; rw [if_neg hk4, if_neg hnT, if_pos hk1])
  rw [he]
  refine A3 ?_
  refine V3 _ [(0, false), (1, false), (2, false), (3, false), (4, false), (5, false), (6, false), (7, false), (8, false), (9, false), (10, false), (12, false), (13, false), (11, true), (14, true), (15, false)] (by kernel_rfl) (by kernel_rfl) rfl i6 ?_
  refine H7 rfl rfl rfl (fun ext => B1 2 rfl C4 rfl G8 (A0 rfl) rfl) ?_
  refine H7 rfl rfl rfl (fun ext => B0 2 rfl (A0 rfl) rfl M5 rfl) ?_
  refine H7 rfl rfl rfl (fun ext => B1 1 rfl B7 rfl B5 (A0 rfl) rfl) ?_
  refine H7 rfl rfl rfl (fun ext => B0 4 rfl (A0 rfl) rfl C6 rfl) ?_
  refine H7 rfl rfl rfl (fun ext => B1 2 rfl B7 rfl B5 (A0 rfl) rfl) ?_
  refine H7 rfl rfl rfl (fun ext => B0 4 rfl (A0 rfl) rfl C6 rfl) ?_
  refine H7 rfl rfl rfl (fun ext => B1 3 rfl B7 rfl B5 (A0 rfl) rfl) ?_
  refine H7 rfl rfl rfl (fun ext => B0 4 rfl (A0 rfl) rfl C6 rfl) ?_
  refine H7 rfl rfl rfl (fun ext => B1 4 rfl B7 rfl H5 (A0 rfl) rfl) ?_
  refine H7 rfl rfl rfl (fun ext => B0 4 rfl (A0 rfl) rfl K7 rfl) ?_
  refine H7 rfl rfl rfl (fun ext => D7 rfl Tryz.call52 rfl (m7 _ (by omega)) (A6 (A0 rfl) C0)) ?_
  refine H7 rfl rfl rfl (fun ext => B1 5 rfl B7 rfl L0 (A0 rfl) rfl) ?_
  refine H7 rfl rfl rfl (fun ext => B0 4 rfl (A0 rfl) rfl M3 rfl) ?_
  refine V4 rfl rfl rfl (Z6 rfl D1 E5) (fun a _ => (by first | exact E1 rfl | exact E1 (List.append_assoc _ _ _) | exact H6)) ?_
  intro v60 _
  refine V4 rfl rfl rfl (AU5 [6] (fun _ => rfl) (fun _ => M8 (F9 (i := 0) rfl) I7) (fun _ => AH0) (R5 (by' := 40) 6 rfl D1 Tryz.type79 rfl rfl rfl rfl rfl rfl (A0 rfl) (A0 rfl) rfl (by simp only [N4, A8]; omega))) (fun a _ => (by first | exact E1 rfl | exact E1 (List.append_assoc _ _ _) | exact H6)) ?_
  intro v63_1 _
  refine H7 rfl rfl rfl (fun ext => N5 (places := #[(0, 1), (1, 1), (2, 1), (3, 1), (4, 1)]) rfl G2 Tryz.zeroValue130 (fun w => by kernel_rfl) rfl (D0 (A0 rfl) (L8 _ _) (D0 (A0 rfl) (L8 _ _) (D0 (A0 rfl) (L8 _ _) (D0 (A0 rfl) (O9 _ _) (D0 (A0 rfl) (O9 _ _) G9))))) rfl) ?_
  refine l4 ?_
  refine A1 rfl (D7 rfl Tryz.call202 rfl (Aw3 s.Held (hOf r) hgh (by omega)) (A6 (A0 rfl) (A6 (A0 rfl) C0))) ?_
  refine A1 rfl (B1 2 rfl C4 rfl G8 (A0 rfl) rfl) ?_
  refine K8 2 rfl rfl rfl (A0 rfl) (A0 rfl) (O9 _ _) rfl G8 rfl ?_
  refine A4 (A3 (A2 ?_))
  refine A1 rfl (B1 2 rfl B7 rfl B5 (A0 rfl) rfl) ?_
  refine A1 rfl (B0 4 rfl (A0 rfl) rfl C6 rfl) ?_
  refine A1 rfl (B1 0 rfl C4 rfl B5 (A0 rfl) rfl) ?_
  refine K8 2 rfl rfl rfl (A0 rfl) (A0 rfl) (L8 _ _) rfl B5 rfl ?_
  refine A4 (A3 ?_)
  refine AWP.le (F8 [2, 3, 3] rfl) ?_
  refine Q2 _ 19 (.pure 0 (.pure 1 (.pure 2 (.pure 3 (.pure 4 (.pure 5 (.pure 6 (.pure 7 (.pure 8 (.pure 9 (.pure 10 (.pure 11 (.pure 12 (.pure 13 (.pure 14 (.pure 15 (.pure 16 (.pure 17 (.e1 18 .nil))))))))))))))))))) (by kernel_rfl) (by kernel_rfl) rfl (V2 3) ?_
  refine D4 rfl rfl rfl (fun ext => F1 0 rfl (A0 rfl) rfl F0 C5 rfl) ?_
  refine D4 rfl rfl rfl (fun ext => B8 rfl (A0 rfl)) ?_
  refine D4 rfl rfl rfl (fun ext => M2 rfl (A0 rfl)) ?_
  refine D4 rfl rfl rfl (fun ext => B8 rfl (A0 rfl)) ?_
  refine T5 rfl rfl (I9 rfl rfl rfl) (fun hc ext => B1 2 rfl B7 rfl B5 (A0 rfl) rfl) ?_
  refine T5 rfl rfl (I9 rfl rfl rfl) (fun hc ext => B0 1 rfl (A9 rfl hc) rfl C6 rfl) ?_
  refine T5 rfl rfl (I9 rfl rfl rfl) (fun hc ext => B1 0 rfl C4 rfl B5 (A0 rfl) rfl) ?_
  refine T5 rfl rfl (I9 rfl rfl rfl) (fun hc ext => B0 2 rfl (A9 rfl hc) rfl C6 rfl) ?_
  refine T5 rfl rfl (I9 rfl rfl rfl) (fun hc ext => R8 rfl (A9 rfl hc) (A9 rfl hc)) ?_
  refine D4 rfl rfl rfl (fun ext => J5 rfl (A0 rfl) (F7 rfl)) ?_
  refine D4 rfl rfl rfl (fun ext => B8 rfl (A0 rfl)) ?_
  refine T5 rfl rfl (I9 rfl rfl rfl) (fun hc ext => F1 2 rfl (A0 rfl) rfl F0 C5 rfl) ?_
  refine T5 rfl rfl (I9 rfl rfl rfl) (fun hc ext => B1 4 rfl B7 rfl H5 (A0 rfl) rfl) ?_
  refine T5 rfl rfl (I9 rfl rfl rfl) (fun hc ext => B0 1 rfl (A9 rfl hc) rfl K7 rfl) ?_
  refine T5 rfl rfl (I9 rfl rfl rfl) (fun hc ext => B1 5 rfl B7 rfl L0 (A0 rfl) rfl) ?_
  refine T5 rfl rfl (I9 rfl rfl rfl) (fun hc ext => B0 1 rfl (A9 rfl hc) rfl M3 rfl) ?_
  refine T5 rfl rfl (I9 rfl rfl rfl) (fun hc ext => D7 rfl Tryz.call203 rfl (Af6 s r.Reads r.Writes (by omega) (by omega)) (A6 (A9 rfl hc) (A6 (A9 rfl hc) (A6 (A9 rfl hc) C0)))) ?_
  refine D4 rfl rfl rfl (fun ext => J5 rfl (A0 rfl) (F7 rfl)) ?_
  refine T9 ?_
  refine j5 rfl rfl rfl (W7 5 rfl rfl (A0 rfl) (A0 rfl) (D6 _) rfl C5 rfl) (fun a _ => (by first | exact E1 rfl | exact E1 (List.append_assoc _ _ _) | exact H6)) ?_
  intro _ _
  refine W1 ?_
  refine B3 rfl ?_
  refine A4 ?_
  refine C2 ?_
  exact X8 rfl (by decide) (E7 (J9 (ys := _) 5 rfl rfl F0 C5 rfl) (E7 (C1 rfl (by rfl)) M0))
 intro h45
 have k45 := M6 h45; try simp only [A8] at k45
 have hk1 : r.Kind ≠ 1 := by simpa using h45
 have hap : applyS s r = (if r.Yes = true then (match findH s.Held r.Txn with | none => (s, false) | some h => if r.Time < h.Time then (s, false) else if (putP s.Cells h.Writes r.Time).2 = true then (doneS s r (if s.Floor < r.Time then r.Time else s.Floor) (putP s.Cells h.Writes r.Time).1, true) else (s, false)) else (doneS s r s.Floor s.Cells, true)) := by (unfold applyS; rw [if_neg hk4, if_neg hnT, if_neg hk1]; rfl)
 refine A3 (A2 ?_)
 refine A1 rfl (B1 6 rfl B7 rfl N2 (A0 rfl) rfl) ?_
 refine A1 rfl (B0 4 rfl (A0 rfl) rfl O5 rfl) ?_
 refine B3 rfl ?_
 refine A4 ?_
 refine B9 (A0 rfl) ?_ ?_
 ·intro h88
  refine A3 (A3 (A2 ?_))
  refine A5 rfl ?_
  refine A1 rfl (M2 rfl (A0 rfl)) ?_
  refine A5 rfl ?_
  refine F3 rfl (fun hc => B1 1 rfl G2 rfl B5 (A0 rfl) rfl) ?_
  refine F3 rfl (fun hc => B0 1 rfl (A9 rfl hc) rfl C6 rfl) ?_
  refine F3 rfl (fun hc => B1 2 rfl B7 rfl B5 (A0 rfl) rfl) ?_
  refine F3 rfl (fun hc => B0 4 rfl (A9 rfl hc) rfl C6 rfl) ?_
  refine F3 rfl (fun hc => R8 rfl (A9 rfl hc) (A9 rfl hc)) ?_
  refine A1 rfl (Q8 rfl (A0 rfl) (F7 rfl)) ?_
  refine A4 ?_
  refine B9 (A0 rfl) ?_ ?_
  ·intro h99
   have he : applyS s r = (s, false) := by (rw [hap, if_pos h88]; cases e : hasH s.Held r.Txn with | false => (rw [hf0 e]) | true => (rw [hf1 e]; dsimp only; rw [if_pos (by rw [e] at h99; simpa using h99)]))
   rw [he]
   refine A3 (A2 ?_)
   refine A1 rfl (F1 2 rfl (A0 rfl) rfl F0 C5 rfl) ?_
   refine D2 3 rfl rfl rfl (A0 rfl) (A0 rfl) (D6 _) rfl C5 rfl ?_
   refine A1 rfl (B6 rfl E9) ?_
   refine A4 ?_
   refine C2 ?_
   exact X8 rfl (by decide) (E7 (J9 (ys := _) 3 rfl rfl F0 C5 rfl) (E7 (C1 rfl (by rfl)) M0))
  intro h99
  simp only [Bool.or_eq_false_iff, Bool.not_eq_false', decide_eq_false_iff_not] at h99
  obtain ⟨hhas, hnlt⟩ := h99
  obtain ⟨hz1, hz2⟩ := hhs hhas
  have hz3 : h.size = sizeL (fun x => x.length) h.Reads + sizeL TWrite.size h.Writes := rfl
  refine C3 (A3 (A2 ?_))
  refine A1 rfl (B1 1 rfl C4 rfl P6 (A0 rfl) rfl) ?_
  refine A1 rfl (B0 5 rfl (A0 rfl) rfl S1 rfl) ?_
  refine A1 rfl (B1 4 rfl G2 rfl L0 (A0 rfl) rfl) ?_
  refine A1 rfl (B0 1 rfl (A0 rfl) rfl M3 rfl) ?_
  refine A1 rfl (B1 2 rfl B7 rfl B5 (A0 rfl) rfl) ?_
  refine A1 rfl (B0 4 rfl (A0 rfl) rfl C6 rfl) ?_
  refine A1 rfl (D7 rfl Tryz.call204 rfl (AZ4 s.Cells h.Writes r.Time hgc (by omega) (by omega) (by omega)) (A6 (A0 rfl) (A6 (A0 rfl) (A6 (A0 rfl) C0)))) ?_
  refine A5 rfl ?_
  refine A1 rfl (G6 rfl (A0 rfl) rfl) ?_
  refine A1 rfl (G6 rfl (A0 rfl) rfl) ?_
  refine B3 rfl ?_
  refine B3 rfl ?_
  refine A4 (A3 (A3 (A2 ?_)))
  refine A5 rfl ?_
  refine A1 rfl (M2 rfl (A0 rfl)) ?_
  refine A4 ?_
  refine B9 (A0 rfl) ?_ ?_
  ·intro h112
   have he : applyS s r = (s, false) := by (rw [hap, if_pos h88, hf1 hhas]; dsimp only; rw [if_neg (by omega), if_neg (by simpa using h112)])
   rw [he]
   refine A3 (A2 ?_)
   refine A1 rfl (F1 2 rfl (A0 rfl) rfl F0 C5 rfl) ?_
   refine D2 3 rfl rfl rfl (A0 rfl) (A0 rfl) (D6 _) rfl C5 rfl ?_
   refine A1 rfl (B6 rfl E9) ?_
   refine A4 ?_
   refine C2 ?_
   exact X8 rfl (by decide) (E7 (J9 (ys := _) 3 rfl rfl F0 C5 rfl) (E7 (C1 rfl (by rfl)) M0))
  intro h112
  have he : applyS s r = (doneS s r (if s.Floor < r.Time then r.Time else s.Floor) (putP s.Cells h.Writes r.Time).1, true) := by (rw [hap, if_pos h88, hf1 hhas]; dsimp only; rw [if_neg (by omega), if_pos (by simpa using h112)])
  rw [he]
  unfold doneS
  refine C3 (A3 (A2 ?_))
  refine A5 rfl ?_
  refine A1 rfl (B1 1 rfl C4 rfl P6 (A0 rfl) rfl) ?_
  refine K8 2 rfl rfl rfl (A0 rfl) (A0 rfl) (O9 _ _) rfl P6 rfl ?_
  refine A4 (A2 ?_)
  refine A1 rfl (B1 0 rfl C4 rfl B5 (A0 rfl) rfl) ?_
  refine A1 rfl (B0 5 rfl (A0 rfl) rfl C6 rfl) ?_
  refine A1 rfl (B1 2 rfl B7 rfl B5 (A0 rfl) rfl) ?_
  refine A1 rfl (B0 4 rfl (A0 rfl) rfl C6 rfl) ?_
  refine A1 rfl (D7 rfl Tryz.call188 rfl (AV1 _ _) (A6 (A0 rfl) (A6 (A0 rfl) C0))) ?_
  refine A1 rfl (B1 0 rfl C4 rfl B5 (A0 rfl) rfl) ?_
  refine K8 2 rfl rfl rfl (A0 rfl) (A0 rfl) (L8 _ _) rfl B5 rfl ?_
  refine A4 (A3 (A2 ?_))
  refine A1 rfl (B1 2 rfl C4 rfl G8 (A0 rfl) rfl) ?_
  refine A1 rfl (B0 2 rfl (A0 rfl) rfl M5 rfl) ?_
  refine A1 rfl (B1 1 rfl B7 rfl B5 (A0 rfl) rfl) ?_
  refine A1 rfl (B0 4 rfl (A0 rfl) rfl C6 rfl) ?_
  refine A1 rfl (D7 rfl Tryz.call205 rfl (An2 s.Held r.Txn (by omega)) (A6 (A0 rfl) (A6 (A0 rfl) C0))) ?_
  refine A1 rfl (B1 2 rfl C4 rfl G8 (A0 rfl) rfl) ?_
  refine K8 2 rfl rfl rfl (A0 rfl) (A0 rfl) (O9 _ _) rfl G8 rfl ?_
  refine A4 (A3 (A2 ?_))
  refine A1 rfl (B1 3 rfl C4 rfl O7 (A0 rfl) rfl) ?_
  refine A1 rfl (B0 2 rfl (A0 rfl) rfl T0 rfl) ?_
  refine A1 rfl (B1 1 rfl B7 rfl B5 (A0 rfl) rfl) ?_
  refine A1 rfl (B0 4 rfl (A0 rfl) rfl C6 rfl) ?_
  refine A1 rfl (B1 6 rfl B7 rfl N2 (A0 rfl) rfl) ?_
  refine A1 rfl (B0 4 rfl (A0 rfl) rfl O5 rfl) ?_
  refine A1 rfl (B1 2 rfl B7 rfl B5 (A0 rfl) rfl) ?_
  refine A1 rfl (B0 4 rfl (A0 rfl) rfl C6 rfl) ?_
  refine A1 rfl (N5 (places := #[(0, 1), (1, 1), (2, 1)]) rfl M9 Tryz.zeroValue132 (fun w => by kernel_rfl) rfl (D0 (A0 rfl) (L8 _ _) (D0 (A0 rfl) (f6 _) (D0 (A0 rfl) (L8 _ _) G9))) rfl) ?_
  refine A1 rfl (D7 rfl Tryz.call206 rfl (AV0 s.Told ⟨r.Txn, r.Yes, r.Time⟩ hgt (by omega)) (A6 (A0 rfl) (A6 (A0 rfl) C0))) ?_
  refine A1 rfl (B1 3 rfl C4 rfl O7 (A0 rfl) rfl) ?_
  refine K8 2 rfl rfl rfl (A0 rfl) (A0 rfl) (O9 _ _) rfl O7 rfl ?_
  refine A4 (A3 (A2 ?_))
  refine A1 rfl (F1 2 rfl (A0 rfl) rfl F0 C5 rfl) ?_
  refine D2 3 rfl rfl rfl (A0 rfl) (A0 rfl) (D6 _) rfl C5 rfl ?_
  refine A1 rfl (B6 rfl E9) ?_
  refine A4 ?_
  refine C2 ?_
  exact X8 rfl (by decide) (E7 (J9 (ys := _) 3 rfl rfl F0 C5 rfl) (E7 (C1 rfl (by rfl)) M0))
 intro h88
 have he : applyS s r = (doneS s r s.Floor s.Cells, true) := by (rw [hap, if_neg (by rw [h88]; decide)])
 rw [he]
 unfold doneS
 refine C3 (A3 (A2 ?_))
 refine A1 rfl (B1 2 rfl C4 rfl G8 (A0 rfl) rfl) ?_
 refine A1 rfl (B0 2 rfl (A0 rfl) rfl M5 rfl) ?_
 refine A1 rfl (B1 1 rfl B7 rfl B5 (A0 rfl) rfl) ?_
 refine A1 rfl (B0 4 rfl (A0 rfl) rfl C6 rfl) ?_
 refine A1 rfl (D7 rfl Tryz.call205 rfl (An2 s.Held r.Txn (by omega)) (A6 (A0 rfl) (A6 (A0 rfl) C0))) ?_
 refine A1 rfl (B1 2 rfl C4 rfl G8 (A0 rfl) rfl) ?_
 refine K8 2 rfl rfl rfl (A0 rfl) (A0 rfl) (O9 _ _) rfl G8 rfl ?_
 refine A4 (A3 (A2 ?_))
 refine A1 rfl (B1 3 rfl C4 rfl O7 (A0 rfl) rfl) ?_
 refine A1 rfl (B0 2 rfl (A0 rfl) rfl T0 rfl) ?_
 refine A1 rfl (B1 1 rfl B7 rfl B5 (A0 rfl) rfl) ?_
 refine A1 rfl (B0 4 rfl (A0 rfl) rfl C6 rfl) ?_
 refine A1 rfl (B1 6 rfl B7 rfl N2 (A0 rfl) rfl) ?_
 refine A1 rfl (B0 4 rfl (A0 rfl) rfl O5 rfl) ?_
 refine A1 rfl (B1 2 rfl B7 rfl B5 (A0 rfl) rfl) ?_
 refine A1 rfl (B0 4 rfl (A0 rfl) rfl C6 rfl) ?_
 refine A1 rfl (N5 (places := #[(0, 1), (1, 1), (2, 1)]) rfl M9 Tryz.zeroValue132 (fun w => by kernel_rfl) rfl (D0 (A0 rfl) (L8 _ _) (D0 (A0 rfl) (f6 _) (D0 (A0 rfl) (L8 _ _) G9))) rfl) ?_
 refine A1 rfl (D7 rfl Tryz.call206 rfl (AV0 s.Told ⟨r.Txn, r.Yes, r.Time⟩ hgt (by omega)) (A6 (A0 rfl) (A6 (A0 rfl) C0))) ?_
 refine A1 rfl (B1 3 rfl C4 rfl O7 (A0 rfl) rfl) ?_
 refine K8 2 rfl rfl rfl (A0 rfl) (A0 rfl) (O9 _ _) rfl O7 rfl ?_
 refine A4 (A3 (A2 ?_))
 refine A1 rfl (F1 2 rfl (A0 rfl) rfl F0 C5 rfl) ?_
 refine D2 3 rfl rfl rfl (A0 rfl) (A0 rfl) (D6 _) rfl C5 rfl ?_
 refine A1 rfl (B6 rfl E9) ?_
 refine A4 ?_
 refine C2 ?_
 exact X8 rfl (by decide) (E7 (J9 (ys := _) 3 rfl rfl F0 C5 rfl) (E7 (C1 rfl (by rfl)) M0))
end Go.Proofs.YtoaoicnnimjbeaaGreat

set_option maxHeartbeats 1000000
namespace Go.M
open Go.AV
theorem BE1 (s : TState) (r : TRec) (h : goodState s = true ∧ goodRec r = true) : applyRecR s r = if (applyS s r).2 = true then ((applyS s r).1, true) else (zState, false) := by
  unfold applyRecR; rw [if_pos h]; rfl
end Go.M
namespace Go.Proofs.YtoaoicnnimjbeaaGreat
open Go Go.AV Go.M
attribute [local irreducible] OpW OpA OpS AWP FSpec ESpec GSpec OpE RetOk RetOkG RvDen Le Ev GuardIs SrcIs Int.tmod Int.tdiv IntKind.wrap
theorem AL6 (s : TState) (r : TRec) (hs : s.size ≤ 300000) (hrs : r.size ≤ 300000) : FSpec Tryz.prog 147 [AV.agg s.cs, AV.agg r.cs] (AV.tup [AV.agg (applyRecR s r).1.cs, AV.bool (applyRecR s r).2]) := by
 refine E2 Tryz.func147 rfl Tryz.ntmps147 rfl ?_
 refine A3 (A2 ?_)
 refine N1 rfl rfl rfl rfl (A0 rfl) ?_
 intro b2
 refine N1 rfl rfl rfl rfl (A0 rfl) ?_
 intro b3
 refine F5 rfl rfl rfl rfl Tryz.zeroValue53 rfl ?_
 intro b4
 refine A1 rfl (B6 rfl E9) ?_
 refine A4 (A3 (A3 (A2 ?_)))
 refine A1 rfl (F1 2 rfl (A0 rfl) rfl F0 C5 rfl) ?_
 refine A1 rfl (D7 rfl Tryz.call81 rfl (w5 _ (by first | assumption | omega)) (A6 (A0 rfl) C0)) ?_
 refine A1 rfl (M2 rfl (A0 rfl)) ?_
 refine A5 rfl ?_
 refine F3 rfl (fun hc => F1 1 rfl (A0 rfl) rfl O6 H8 rfl) ?_
 refine F3 rfl (fun hc => D7 rfl Tryz.call73 rfl (AI8 _ (by first | assumption | omega)) (A6 (A9 rfl hc) C0)) ?_
 refine F3 rfl (fun hc => M2 rfl (A9 rfl hc)) ?_
 refine A1 rfl (Q8 rfl (A0 rfl) (F7 rfl)) ?_
 refine A4 ?_
 refine B9 (A0 rfl) ?_ ?_
 ·intro h15
  have he : applyRecR s r = (zState, false) := by (unfold applyRecR; rw [if_neg (by intro h; rw [h.1, ← AD2, h.2] at h15; cases h15)])
  rw [he]
  refine A3 (A2 ?_)
  refine A1 rfl (N5 (places := #[(0, 1), (1, 1), (2, 1), (3, 1)]) rfl C4 Tryz.zeroValue53 (fun w => by kernel_rfl) rfl G9 rfl) ?_
  refine D2 0 rfl rfl rfl (A0 rfl) (A0 rfl) (D6 _) rfl C5 rfl ?_
  refine A1 rfl (B6 rfl E9) ?_
  refine A4 ?_
  refine C2 ?_
  refine Y7 0 1 2 rfl rfl ?_
  refine Y7 0 2 5 rfl rfl ?_
  refine Y7 0 3 3 rfl rfl ?_
  exact X8 rfl (by decide) (E7 (J9 (ys := _) 0 rfl rfl F0 C5 rfl) (E7 (C1 rfl (by rfl)) M0))
 intro h15
 have hgd : goodState s = true ∧ goodRec r = true := by (rw [AD2]; simpa using h15)
 have g := gs_so (g9.1 hgd.1)
 have hm := BE1 s r hgd
 refine C3 (A3 (A2 ?_))
 refine A1 rfl (F1 2 rfl (A0 rfl) rfl F0 C5 rfl) ?_
 refine A1 rfl (F1 1 rfl (A0 rfl) rfl O6 H8 rfl) ?_
 refine A1 rfl (D7 rfl Tryz.call189 rfl (BA6 _ _ (by assumption) (by first | assumption | omega) (by first | assumption | omega)) (A6 (A0 rfl) (A6 (A0 rfl) C0))) ?_
 refine A5 rfl ?_
 refine A1 rfl (G6 rfl (A0 rfl) rfl) ?_
 refine A1 rfl (G6 rfl (A0 rfl) rfl) ?_
 refine F5 rfl rfl rfl rfl Tryz.zeroValue53 rfl ?_
 intro b6
 refine D2 0 rfl rfl rfl (A0 rfl) (A0 rfl) (D6 _) rfl C5 rfl ?_
 refine B3 rfl ?_
 refine A4 (A3 (A3 (A2 ?_)))
 refine A5 rfl ?_
 refine A1 rfl (M2 rfl (A0 rfl)) ?_
 refine A4 ?_
 refine B9 (A0 rfl) ?_ ?_
 ·intro h24
  have he : applyRecR s r = (zState, false) := by (rw [hm, if_neg (by simpa using h24)])
  rw [he]
  refine A3 (A2 ?_)
  refine A1 rfl (N5 (places := #[(0, 1), (1, 1), (2, 1), (3, 1)]) rfl C4 Tryz.zeroValue53 (fun w => by kernel_rfl) rfl G9 rfl) ?_
  refine D2 1 rfl rfl rfl (A0 rfl) (A0 rfl) (D6 _) rfl C5 rfl ?_
  refine A1 rfl (B6 rfl E9) ?_
  refine A4 ?_
  refine C2 ?_
  refine Y7 1 1 2 rfl rfl ?_
  refine Y7 1 2 5 rfl rfl ?_
  refine Y7 1 3 3 rfl rfl ?_
  exact X8 rfl (by decide) (E7 (J9 (ys := _) 1 rfl rfl F0 C5 rfl) (E7 (C1 rfl (by rfl)) M0))
 intro h24
 have he : applyRecR s r = ((applyS s r).1, true) := by (rw [hm, if_pos (by simpa using h24)])
 rw [he]
 refine C3 (A3 (A2 ?_))
 refine A1 rfl (F1 0 rfl (A0 rfl) rfl F0 C5 rfl) ?_
 refine D2 1 rfl rfl rfl (A0 rfl) (A0 rfl) (D6 _) rfl C5 rfl ?_
 refine A1 rfl (B6 rfl E9) ?_
 refine A4 ?_
 refine C2 ?_
 exact X8 rfl (by decide) (E7 (J9 (ys := _) 1 rfl rfl F0 C5 rfl) (E7 (C1 rfl (by rfl)) M0))
theorem Aw4 (x y : TTold) : (x.Txn == y.Txn && (x.Yes == y.Yes && (x.Time == y.Time && true))) = decide (x = y) := by
  cases x; cases y
  rw [Bool.eq_iff_iff]
  simp
theorem Af7 (a b : TState) (hs : a.size ≤ 1048576) : FSpec Tryz.prog 55 [AV.agg a.cs, AV.agg b.cs] (AV.bool (decide (a = b))) := by
 obtain ⟨hs1, hs2, hs3, hs4, hs5⟩ := X0 hs
 refine E2 Tryz.func55 rfl Tryz.ntmps55 rfl ?_
 refine A3 (A2 ?_)
 refine N1 rfl rfl rfl rfl (A0 rfl) ?_
 intro b2
 refine N1 rfl rfl rfl rfl (A0 rfl) ?_
 intro b3
 refine A1 rfl (B6 rfl E9) ?_
 refine A4 (A3 (A3 (A2 ?_)))
 refine A1 rfl (B1 0 rfl C4 rfl B5 (A0 rfl) rfl) ?_
 refine A1 rfl (B0 1 rfl (A0 rfl) rfl C6 rfl) ?_
 refine A1 rfl (B1 0 rfl C4 rfl B5 (A0 rfl) rfl) ?_
 refine A1 rfl (B0 0 rfl (A0 rfl) rfl C6 rfl) ?_
 refine A1 rfl (Z7 rfl (A0 rfl) (A0 rfl)) ?_
 refine A5 rfl ?_
 refine F3 rfl (fun hc => B1 1 rfl C4 rfl P6 (A0 rfl) rfl) ?_
 refine F3 rfl (fun hc => B0 1 rfl (A9 rfl hc) rfl S1 rfl) ?_
 refine F3 rfl (fun hc => B1 1 rfl C4 rfl P6 (A0 rfl) rfl) ?_
 refine F3 rfl (fun hc => B0 0 rfl (A9 rfl hc) rfl S1 rfl) ?_
 refine F3 rfl (fun hc => D7 rfl Tryz.call89 rfl (Af0 a.Cells b.Cells (by omega)) (A6 (A9 rfl hc) (A6 (A9 rfl hc) C0))) ?_
 refine F3 rfl (fun hc => M2 rfl (A9 rfl hc)) ?_
 refine A1 rfl (Q8 rfl (A0 rfl) (F7 rfl)) ?_
 refine A5 rfl ?_
 refine F3 rfl (fun hc => B1 2 rfl C4 rfl G8 (A0 rfl) rfl) ?_
 refine F3 rfl (fun hc => B0 1 rfl (A9 rfl hc) rfl M5 rfl) ?_
 refine F3 rfl (fun hc => F6 rfl E4 (A9 rfl hc)) ?_
 refine F3 rfl (fun hc => B1 2 rfl C4 rfl G8 (A0 rfl) rfl) ?_
 refine F3 rfl (fun hc => B0 0 rfl (A9 rfl hc) rfl M5 rfl) ?_
 refine F3 rfl (fun hc => F6 rfl E4 (A9 rfl hc)) ?_
 refine F3 rfl (fun hc => Z7 rfl (A9 rfl hc) (A9 rfl hc)) ?_
 refine A1 rfl (Q8 rfl (A0 rfl) (F7 rfl)) ?_
 refine A5 rfl ?_
 refine F3 rfl (fun hc => B1 3 rfl C4 rfl O7 (A0 rfl) rfl) ?_
 refine F3 rfl (fun hc => B0 1 rfl (A9 rfl hc) rfl T0 rfl) ?_
 refine F3 rfl (fun hc => F6 rfl I8 (A9 rfl hc)) ?_
 refine F3 rfl (fun hc => B1 3 rfl C4 rfl O7 (A0 rfl) rfl) ?_
 refine F3 rfl (fun hc => B0 0 rfl (A9 rfl hc) rfl T0 rfl) ?_
 refine F3 rfl (fun hc => F6 rfl I8 (A9 rfl hc)) ?_
 refine F3 rfl (fun hc => Z7 rfl (A9 rfl hc) (A9 rfl hc)) ?_
 refine A1 rfl (Q8 rfl (A0 rfl) (F7 rfl)) ?_
 refine A4 ?_
 refine B9 (A0 rfl) ?_ ?_
 ·intro h37
  have hne : decide (a = b) = false := decide_eq_false fun e => by (subst e; simp at h37)
  rw [hne]
  refine A3 (A2 ?_)
  refine A1 rfl (B6 rfl E9) ?_
  refine A4 ?_
  refine C2 ?_
  exact I3 rfl (C1 rfl (by rfl))
 intro h37
 have hfa : a.Floor = b.Floor ∧ a.Cells = b.Cells ∧ a.Held.length = b.Held.length ∧ a.Told.length = b.Told.length := by (simp only [Bool.or_eq_false_iff, A8] at h37; simp at h37; exact ⟨h37.1.1.1, h37.1.1.2, by omega, by omega⟩)
 refine C3 (A3 (A3 (A2 ?_)))
 refine A1 rfl (B1 2 rfl C4 rfl G8 (A0 rfl) rfl) ?_
 refine A1 rfl (B0 1 rfl (A0 rfl) rfl M5 rfl) ?_
 refine A1 rfl (F6 rfl E4 (A0 rfl)) ?_
 refine A1 rfl (B8 rfl B4) ?_
 refine A4 (C7 ?_)
 refine J0 [(2, _), (3, _), (40, _)] _ (fun (i : Nat) => i ≤ a.Held.length ∧ a.Held.take i = b.Held.take i) (fun (i : Nat) => []) (fun (i : Nat) => [(41, AV.int i)]) (fun (i : Nat) => a.Held.length - i) (0) ?_ (K2 ⟨rfl, rfl, rfl, rfl, trivial⟩) ?_
 ·exact ⟨Nat.zero_le _, rfl⟩
 intro i hinv
 refine A3 (A2 ?_)
 refine A1 rfl (J8 rfl (A0 rfl) (A0 rfl)) ?_
 refine A4 (A3 ?_)
 refine B9 (A0 rfl) ?_ ?_
 ·intro h42
  have k42 := of_decide_eq_true h42; try simp only [A8] at k42
  have hlt : i < a.Held.length := by omega
  obtain ⟨x, hx⟩ := get_some hlt
  obtain ⟨y, hy⟩ := get_some (show i < b.Held.length by omega)
  refine C3 (A3 (C7 (A3 (A2 ?_))))
  refine A5 rfl ?_
  refine B3 rfl ?_
  refine A4 (A3 ?_)
  refine L1 (by kernel_rfl) (by kernel_rfl) rfl ?_
  refine B2 rfl rfl (B1 2 rfl C4 rfl G8 (A0 rfl) rfl) ?_
  refine B2 rfl rfl (B0 1 rfl (A0 rfl) rfl M5 rfl) ?_
  refine B2 rfl rfl (B8 rfl (A0 rfl)) ?_
  refine B2 rfl rfl (I2 rfl E4 D5 (A0 rfl) (A0 rfl) hx (by first | omega | (simp only [C8, A7, szR] at *; omega))) ?_
  refine B2 rfl rfl (K6 rfl (A0 rfl) K3 D5) ?_
  refine B2 rfl rfl (D7 rfl Tryz.call91 rfl (AC2 _) (A6 (A0 rfl) C0)) ?_
  refine B2 rfl rfl (B1 2 rfl C4 rfl G8 (A0 rfl) rfl) ?_
  refine B2 rfl rfl (B0 0 rfl (A0 rfl) rfl M5 rfl) ?_
  refine B2 rfl rfl (B8 rfl (A0 rfl)) ?_
  refine B2 rfl rfl (I2 rfl E4 D5 (A0 rfl) (A0 rfl) hy (by first | omega | (simp only [C8, A7, szR] at *; omega))) ?_
  refine B2 rfl rfl (K6 rfl (A0 rfl) K3 D5) ?_
  refine B2 rfl rfl (D7 rfl Tryz.call91 rfl (AC2 _) (A6 (A0 rfl) C0)) ?_
  refine B2 rfl rfl (D7 rfl Tryz.call90 rfl (Ao7 (hRec x) (hRec y)) (A6 (A0 rfl) (A6 (A0 rfl) C0))) ?_
  refine B2 rfl rfl (M2 rfl (A0 rfl)) ?_
  refine P7 ?_
  refine B9 (A0 rfl) ?_ ?_
  ·intro h57
   have hne : decide (a = b) = false := decide_eq_false fun e => by (subst e; rw [hx] at hy; injection hy with hy; subst hy; simp at h57)
   rw [hne]
   refine A3 (A2 ?_)
   refine A1 rfl (B6 rfl E9) ?_
   refine A4 ?_
   refine C2 ?_
   exact I3 rfl (C1 rfl (by rfl))
  intro h57
  refine C3 (A2 ?_)
  refine A1 rfl (G0 rfl (A0 rfl) B4 (by first | omega | (simp only [C8, A7, szR] at *; omega))) ?_
  refine A5 rfl ?_
  refine A4 ?_
  refine K4 i (i + 1) ?_ ?_ (K2 ⟨rfl, rfl, rfl, rfl, trivial⟩)
  ·exact ⟨by omega, Z9 hinv.2 hx (by rw [hy]; congr 1; rw [BA1] at h57; simpa using (by simpa using h57 : x = y).symm)⟩
  omega
 intro h42
 have k42 := of_decide_eq_false h42; try simp only [A8] at k42
 have hge : a.Held.length ≤ i := by omega
 have hhe : a.Held = b.Held := i4 hfa.2.2.1 hinv.2 hge
 refine G1 ?_
 refine A3 (A3 (A2 ?_))
 refine A1 rfl (B1 3 rfl C4 rfl O7 (A0 rfl) rfl) ?_
 refine A1 rfl (B0 1 rfl (A0 rfl) rfl T0 rfl) ?_
 refine A1 rfl (F6 rfl I8 (A0 rfl)) ?_
 refine A1 rfl (B8 rfl B4) ?_
 refine A4 (C7 ?_)
 refine J0 [(2, _), (3, _), (61, _)] _ (fun (q : Nat) => q ≤ a.Told.length ∧ a.Told.take q = b.Told.take q) (fun (q : Nat) => []) (fun (q : Nat) => [(62, AV.int q)]) (fun (q : Nat) => a.Told.length - q) (0) ?_ (K2 ⟨rfl, rfl, rfl, rfl, trivial⟩) ?_
 ·exact ⟨Nat.zero_le _, rfl⟩
 intro q hinv
 refine A3 (A2 ?_)
 refine A1 rfl (J8 rfl (A0 rfl) (A0 rfl)) ?_
 refine A4 (A3 ?_)
 refine B9 (A0 rfl) ?_ ?_
 ·intro h63
  have k63 := of_decide_eq_true h63; try simp only [A8] at k63
  have hlt : q < a.Told.length := by omega
  obtain ⟨x, hx⟩ := get_some hlt
  obtain ⟨y, hy⟩ := get_some (show q < b.Told.length by omega)
  refine C3 (A3 (C7 (A3 (A2 ?_))))
  refine A5 rfl ?_
  refine B3 rfl ?_
  refine A4 (A3 ?_)
  refine L1 (by kernel_rfl) (by kernel_rfl) rfl ?_
  refine B2 rfl rfl (B1 3 rfl C4 rfl O7 (A0 rfl) rfl) ?_
  refine B2 rfl rfl (B0 1 rfl (A0 rfl) rfl T0 rfl) ?_
  refine B2 rfl rfl (B8 rfl (A0 rfl)) ?_
  refine B2 rfl rfl (I2 rfl I8 M1 (A0 rfl) (A0 rfl) hx (by first | omega | (simp only [C8, A7, szR] at *; omega))) ?_
  refine B2 rfl rfl (K6 rfl (A0 rfl) Y9 M1) ?_
  refine B2 rfl rfl (B1 3 rfl C4 rfl O7 (A0 rfl) rfl) ?_
  refine B2 rfl rfl (B0 0 rfl (A0 rfl) rfl T0 rfl) ?_
  refine B2 rfl rfl (B8 rfl (A0 rfl)) ?_
  refine B2 rfl rfl (I2 rfl I8 M1 (A0 rfl) (A0 rfl) hy (by first | omega | (simp only [C8, A7, szR] at *; omega))) ?_
  refine B2 rfl rfl (K6 rfl (A0 rfl) Y9 M1) ?_
  refine B2 rfl rfl (Ad3 rfl M9 (by kernel_rfl) (by kernel_rfl) (A0 rfl) (A0 rfl) (g6 (by kernel_rfl) C6 rfl rfl (Ag8 W6) (g6 (by kernel_rfl) O5 rfl rfl (AM5 V8) (g6 (by kernel_rfl) C6 rfl rfl (Ag8 W6) AW2)))) ?_
  refine P7 ?_
  refine B9 (A0 rfl) ?_ ?_
  ·intro h75
   have hne : decide (a = b) = false := decide_eq_false fun e => by (subst e; rw [hx] at hy; injection hy with hy; subst hy; rw [Aw4] at h75; simp at h75)
   rw [hne]
   refine A3 (A2 ?_)
   refine A1 rfl (B6 rfl E9) ?_
   refine A4 ?_
   refine C2 ?_
   exact I3 rfl (C1 rfl (by rfl))
  intro h75
  refine C3 (A2 ?_)
  refine A1 rfl (G0 rfl (A0 rfl) B4 (by first | omega | (simp only [C8, A7, szR] at *; omega))) ?_
  refine A5 rfl ?_
  refine A4 ?_
  refine K4 q (q + 1) ?_ ?_ (K2 ⟨rfl, rfl, rfl, rfl, trivial⟩)
  ·exact ⟨by omega, Z9 hinv.2 hx (by rw [hy]; congr 1; rw [Aw4] at h75; simpa using (by simpa using h75 : x = y).symm)⟩
  omega
 intro h63
 have k63 := of_decide_eq_false h63; try simp only [A8] at k63
 have hge : a.Told.length ≤ q := by omega
 have hte : a.Told = b.Told := i4 hfa.2.2.2 hinv.2 hge
 have hye : decide (a = b) = true := decide_eq_true (by (obtain ⟨e1, e2, _⟩ := hfa; cases a; cases b; simp only [TState.mk.injEq]; exact ⟨e1, e2, hhe, hte⟩))
 rw [hye]
 refine G1 ?_
 refine A3 (A2 ?_)
 refine A1 rfl (B6 rfl E9) ?_
 refine A4 ?_
 refine C2 ?_
 exact I3 rfl (C1 rfl (by rfl))
end Go.Proofs.YtoaoicnnimjbeaaGreat

set_option maxHeartbeats 2000000
namespace Go.M
open Go.AV
def goodDealR (d : TDeal) : Bool := ((l15Cuts d.Cuts && decide (d.States.length = d.Cuts.length + 1)) && d.States.all goodState) && goodOs d.Orders
theorem Af8 (a b : Nat) : ((a : Int) == (b : Int) + 1) = decide (a = b + 1) := by
  by_cases h : a = b + 1
  · subst h; simp
  · rw [decide_eq_false h]; exact beq_false_of_ne (by omega)
theorem BJ1 {d : TDeal} {i : Nat} {s : TState} (h : d.States[i]? = some s) (hs : goodState s = false) : goodDealR d = false := by
  unfold goodDealR
  rw [show d.States.all goodState = false from by rw [List.all_eq_false]; exact ⟨s, F9 h, by rw [hs]; decide⟩]
  simp
end Go.M
namespace Go.Proofs.YtoaoicnnimjbeaaGreat
open Go Go.AV Go.M
attribute [local irreducible] OpW OpA OpS AWP FSpec ESpec GSpec OpE RetOk RetOkG RvDen Le Ev GuardIs SrcIs SrcE Int.tmod IntKind.wrap bandI
theorem Aw5 (d : TDeal) (hl : ∀ k ∈ d.Cuts, k.length ≤ 4611686018427387904) (hn : d.Cuts.length ≤ 1000000 ∧ d.States.length ≤ 1000000) (hs : ∀ s ∈ d.States, s.size ≤ 400000) (ho : ∀ o ∈ d.Orders, o.size ≤ 1048576) : FSpec Tryz.prog 42 [AV.agg d.cs] (AV.bool (goodDealR d)) := by
 refine E2 Tryz.func42 rfl Tryz.ntmps42 rfl ?_
 refine A3 (A2 ?_)
 refine N1 rfl rfl rfl rfl (A0 rfl) ?_
 intro b1
 refine A1 rfl (B6 rfl E9) ?_
 refine A4 (A3 (A3 (A2 ?_)))
 refine A1 rfl (B1 1 rfl E8 rfl N8 (A0 rfl) rfl) ?_
 refine A1 rfl (B0 0 rfl (A0 rfl) rfl Q6 rfl) ?_
 refine A1 rfl (F6 rfl J2 (A0 rfl)) ?_
 refine A1 rfl (B8 rfl B4) ?_
 refine A4 (C7 ?_)
 refine AWP.le (F8 [0] rfl) ?_
 refine J0 [(1, _), (6, _), (7, _)] _ (fun (i : Nat) => i ≤ d.States.length ∧ ∀ s ∈ d.States.take i, goodState s = true) (fun (i : Nat) => []) (fun (i : Nat) => [(8, AV.int i)]) (fun (i : Nat) => d.States.length - i) (0) ?_ (O8 (by rfl) ⟨rfl, rfl, rfl, rfl, trivial⟩) ?_
 ·exact ⟨Nat.zero_le _, fun s hs => (by cases hs)⟩
 intro i hinv
 refine A3 (A2 ?_)
 refine A1 rfl (J8 rfl (A0 rfl) (A0 rfl)) ?_
 refine A4 (A3 ?_)
 refine B9 (A0 rfl) ?_ ?_
 ·intro h9
  have k9 := of_decide_eq_true h9; try simp only [A8] at k9
  have hlt : i < d.States.length := by (simpa using h9)
  obtain ⟨x, hx⟩ := get_some hlt
  have hxs := hs x (F9 hx)
  refine C3 (A3 (C7 (A3 (A2 ?_))))
  refine A1 rfl (I2 rfl J2 C5 (A0 rfl) (A0 rfl) hx (by first | omega | (simp only [C8, A7, szR] at *; omega))) ?_
  refine A1 rfl (K6 rfl (A0 rfl) F0 C5) ?_
  refine F5 rfl rfl rfl rfl Tryz.zeroValue53 rfl ?_
  intro b4
  refine D2 0 rfl rfl rfl (A0 rfl) (A0 rfl) (D6 _) rfl C5 rfl ?_
  refine A4 (A3 (A2 ?_))
  refine A1 rfl (F1 0 rfl (A0 rfl) rfl F0 C5 rfl) ?_
  refine A1 rfl (D7 rfl Tryz.call81 rfl (w5 x hxs) (A6 (A0 rfl) C0)) ?_
  refine A1 rfl (M2 rfl (A0 rfl)) ?_
  refine A4 ?_
  refine B9 (A0 rfl) ?_ ?_
  ·intro h14
   have he := BJ1 hx (by simpa using h14)
   rw [he]
   refine A3 (A2 ?_)
   refine A1 rfl (B6 rfl E9) ?_
   refine A4 ?_
   refine C2 ?_
   exact I3 rfl (C1 rfl (by first | rfl | (refine congrArg AV.bool ?_; unfold goodDealR; rw [hall]; simp only [A8]; rw [show (((d.States.length : Int)) == (d.Cuts.length : Int) + 1) = decide (d.States.length = d.Cuts.length + 1) from Af8 _ _]; cases l15Cuts d.Cuts <;> cases goodOs d.Orders <;> cases decide (d.States.length = d.Cuts.length + 1) <;> rfl)))
  intro h14
  refine C3 (A2 ?_)
  refine A1 rfl (G0 rfl (A0 rfl) B4 (by first | omega | (simp only [C8, A7, szR] at *; omega))) ?_
  refine A5 rfl ?_
  refine A4 ?_
  refine K4 i (i + 1) ?_ ?_ (Le.trans (F8 [0] rfl) (K0 1 (by rfl) ⟨rfl, rfl, rfl, rfl, trivial⟩))
  ·exact ⟨by omega, fun q hq => by (rw [List.take_add_one, hx] at hq; rcases List.mem_append.1 hq with hq | hq; (exact hinv.2 q hq); (simp at hq; subst hq; simpa using h14))⟩
  omega
 intro h9
 have k9 := of_decide_eq_false h9; try simp only [A8] at k9
 have hge : d.States.length ≤ i := by (simpa using h9)
 have hall : d.States.all goodState = true := List.all_eq_true.2 (fun s hm => hinv.2 s (by rw [List.take_of_length_le hge]; exact hm))
 refine G1 ?_
 refine A3 (A2 ?_)
 refine A1 rfl (B1 0 rfl E8 rfl H5 (A0 rfl) rfl) ?_
 refine A1 rfl (B0 0 rfl (A0 rfl) rfl K7 rfl) ?_
 refine A1 rfl (D7 rfl Tryz.call29 rfl (p4 d.Cuts hl) (A6 (A0 rfl) C0)) ?_
 refine A5 rfl ?_
 refine D3 rfl (fun hc => B1 1 rfl E8 rfl N8 (A0 rfl) rfl) ?_
 refine D3 rfl (fun hc => B0 0 rfl (A9 rfl hc) rfl Q6 rfl) ?_
 refine D3 rfl (fun hc => F6 rfl J2 (A9 rfl hc)) ?_
 refine D3 rfl (fun hc => B1 0 rfl E8 rfl H5 (A0 rfl) rfl) ?_
 refine D3 rfl (fun hc => B0 0 rfl (A9 rfl hc) rfl K7 rfl) ?_
 refine D3 rfl (fun hc => F6 rfl C9 (A9 rfl hc)) ?_
 refine D3 rfl (fun hc => G0 rfl (A9 rfl hc) B4 (by first | omega | ((try simp only [C8, A7, szR] at *); omega) | (have hc2 := hc; simp only [Q0, beq_iff_eq, bne_iff_ne, A8, D9] at hc2; omega))) ?_
 refine D3 rfl (fun hc => O1 rfl (A9 rfl hc) (A9 rfl hc)) ?_
 refine A1 rfl (J5 rfl (A0 rfl) (F7 rfl)) ?_
 refine A5 rfl ?_
 refine D3 rfl (fun hc => B1 2 rfl E8 rfl U4 (A0 rfl) rfl) ?_
 refine D3 rfl (fun hc => B0 0 rfl (A9 rfl hc) rfl V7 rfl) ?_
 refine D3 rfl (fun hc => D7 rfl Tryz.call51 rfl (AL5 d.Orders ho) (A6 (A9 rfl hc) C0)) ?_
 refine A1 rfl (J5 rfl (A0 rfl) (F7 rfl)) ?_
 refine B3 rfl ?_
 refine A4 ?_
 refine C2 ?_
 exact I3 rfl (C1 rfl (by first | rfl | (refine congrArg AV.bool ?_; unfold goodDealR; rw [hall]; simp only [A8]; rw [show (((d.States.length : Int)) == (d.Cuts.length : Int) + 1) = decide (d.States.length = d.Cuts.length + 1) from Af8 _ _]; cases l15Cuts d.Cuts <;> cases goodOs d.Orders <;> cases decide (d.States.length = d.Cuts.length + 1) <;> rfl)))
theorem Ai6 (s : TState) (hs : s.size ≤ 1048576) : FSpec Tryz.prog 57 [AV.agg s.cs] (AV.bool (!goodState s)) := by
 refine E2 Tryz.func57 rfl Tryz.ntmps57 rfl ?_
 refine A3 (A2 ?_)
 refine N1 rfl rfl rfl rfl (A0 rfl) ?_
 intro b1
 refine A1 rfl (B6 rfl E9) ?_
 refine A4 (A3 (A2 ?_))
 refine A1 rfl (F1 0 rfl (A0 rfl) rfl F0 C5 rfl) ?_
 refine A1 rfl (D7 rfl Tryz.call58 rfl (Ai1 s hs) (A6 (A0 rfl) C0)) ?_
 refine A1 rfl (M2 rfl (A0 rfl)) ?_
 refine B3 rfl ?_
 refine A4 ?_
 refine C2 ?_
 exact I3 rfl (C1 rfl (by rfl))
theorem Ai7 (o p : TOrder) : FSpec Tryz.prog 60 [AV.agg p.cs, AV.eptr o.cs] (AV.bool (p.Txn == o.Txn)) := by
 refine E2 Tryz.func60 rfl Tryz.ntmps60 rfl ?_
 refine A3 (A2 ?_)
 refine N1 rfl rfl rfl rfl (A0 rfl) ?_
 intro b2
 refine A1 rfl (B6 rfl E9) ?_
 refine A4 (A3 (A2 ?_))
 refine A1 rfl (B1 0 rfl H1 rfl B5 (A0 rfl) rfl) ?_
 refine A1 rfl (B0 0 rfl (A0 rfl) rfl C6 rfl) ?_
 refine A1 rfl (X1 rfl H1 rfl B5 (A0 rfl) rfl) ?_
 refine A1 rfl (L6 rfl (A0 rfl) C6 rfl) ?_
 refine A1 rfl (O1 rfl (A0 rfl) (A0 rfl)) ?_
 refine B3 rfl ?_
 refine A4 ?_
 refine C2 ?_
 exact I3 rfl (C1 rfl (by rfl))
end Go.Proofs.YtoaoicnnimjbeaaGreat

namespace Go.M
open Go.AV
theorem Aw6 (d : TDeal) : (d.States.any fun s => !goodState s) = !d.States.all goodState := all_any d.States
theorem deal_os {d : TDeal} (h : goodOs d.Orders = false) : goodDealR d = false := by unfold goodDealR; rw [h]; simp
theorem os_bad2 {l : List TOrder} {i : Nat} {x : TOrder} (hx : l[i]? = some x) (h : (!orderR x || (l.take i).any fun p => p.Txn == x.Txn) = true) : goodOs l = false := by
  rw [Bool.or_eq_true] at h
  rcases h with h | h
  · exact os_bad hx (by simpa using h)
  · obtain ⟨p, hp, e⟩ := List.any_eq_true.1 h
    obtain ⟨j, hj⟩ := List.getElem?_of_mem hp
    have hjl := (List.getElem?_eq_some_iff.1 hj).1
    rw [D9] at hjl
    rw [List.getElem?_take_of_lt (by omega)] at hj
    exact Aw0 hx hj (by omega) (by simpa using (by simpa using e : p.Txn = x.Txn).symm)
theorem BE2 {l : List TOrder} {i : Nat} {x : TOrder} (hx : l[i]? = some x) (h : (!orderR x || (l.take i).any fun p => p.Txn == x.Txn) = false) : orderR x = true ∧ ∀ (j : Nat) (p : TOrder), j < i → l[j]? = some p → x.Txn ≠ p.Txn := by
  rw [Bool.or_eq_false_iff] at h
  refine ⟨by simpa using h.1, fun j p hj hp e => ?_⟩
  have h2 := List.any_eq_false.1 h.2 p (F9 (i := j) (by rw [List.getElem?_take_of_lt hj]; exact hp))
  simp [e] at h2
end Go.M
namespace Go.Proofs.YtoaoicnnimjbeaaGreat
open Go Go.AV Go.M
attribute [local irreducible] OpW OpA OpS AWP FSpec ESpec GSpec OpE RetOk RetOkG RvDen Le Ev GuardIs SrcIs SrcE Int.tmod IntKind.wrap bandI
theorem Aq2 (d : TDeal) (hl : ∀ k ∈ d.Cuts, k.length ≤ 4611686018427387904) (hn : d.Cuts.length ≤ 1000000 ∧ d.States.length ≤ 1000000 ∧ d.Orders.length ≤ 1000000) (hs : ∀ s ∈ d.States, s.size ≤ 400000) (ho : ∀ o ∈ d.Orders, o.size ≤ 1048576) : FSpec Tryz.prog 24 [AV.agg d.cs] (AV.bool (goodDealR d)) := by
 refine E2 Tryz.func24 rfl Tryz.ntmps24 rfl ?_
 refine A3 (A2 ?_)
 refine N1 rfl rfl rfl rfl (A0 rfl) ?_
 intro b1
 refine A1 rfl (B6 rfl E9) ?_
 refine A4 (A3 (A3 (A2 ?_)))
 refine A1 rfl (B1 0 rfl E8 rfl H5 (A0 rfl) rfl) ?_
 refine A1 rfl (B0 0 rfl (A0 rfl) rfl K7 rfl) ?_
 refine A1 rfl (D7 rfl Tryz.call8 rfl (s3 d.Cuts hl) (A6 (A0 rfl) C0)) ?_
 refine A1 rfl (M2 rfl (A0 rfl)) ?_
 refine A5 rfl ?_
 refine F3 rfl (fun hc => B1 1 rfl E8 rfl N8 (A0 rfl) rfl) ?_
 refine F3 rfl (fun hc => B0 0 rfl (A9 rfl hc) rfl Q6 rfl) ?_
 refine F3 rfl (fun hc => F6 rfl J2 (A9 rfl hc)) ?_
 refine F3 rfl (fun hc => B1 0 rfl E8 rfl H5 (A0 rfl) rfl) ?_
 refine F3 rfl (fun hc => B0 0 rfl (A9 rfl hc) rfl K7 rfl) ?_
 refine F3 rfl (fun hc => F6 rfl C9 (A9 rfl hc)) ?_
 refine F3 rfl (fun hc => G0 rfl (A9 rfl hc) B4 (by first | omega | ((try simp only [C8, A7, szR] at *); omega) | (have hc2 := hc; simp only [Q0, beq_iff_eq, bne_iff_ne, A8, D9] at hc2; omega))) ?_
 refine F3 rfl (fun hc => Z7 rfl (A9 rfl hc) (A9 rfl hc)) ?_
 refine A1 rfl (Q8 rfl (A0 rfl) (F7 rfl)) ?_
 refine A5 rfl ?_
 refine F3 rfl (fun hc => B1 1 rfl E8 rfl N8 (A0 rfl) rfl) ?_
 refine F3 rfl (fun hc => B0 0 rfl (A9 rfl hc) rfl Q6 rfl) ?_
 refine F3 rfl (fun hc => D7 rfl Tryz.call56 rfl (AI2 d.States (fun s => s.size ≤ 1048576) (fun s => !goodState s) (fun s hm => Nat.le_trans (hs s hm) (by decide))) (A6 (A9 rfl hc) (A6 (BC1 Tryz.call57 (fun s hs => Ai6 s hs)) C0))) ?_
 refine A1 rfl (Q8 rfl (A0 rfl) (F7 rfl)) ?_
 refine A4 ?_
 refine B9 (A0 rfl) ?_ ?_
 ·intro h23
  have he : goodDealR d = false := by (unfold goodDealR; rw [Aw6] at h23; simp only [A8] at h23; rw [show (((d.States.length : Int)) != (d.Cuts.length : Int) + 1) = !decide (d.States.length = d.Cuts.length + 1) from by rw [← Af8]; rfl] at h23; cases h1 : l15Cuts d.Cuts <;> cases h2 : d.States.all goodState <;> cases h3 : decide (d.States.length = d.Cuts.length + 1) <;> simp_all)
  rw [he]
  refine A3 (A2 ?_)
  refine A1 rfl (B6 rfl E9) ?_
  refine A4 ?_
  refine C2 ?_
  exact I3 rfl (C1 rfl (by first | rfl | exact congrArg AV.bool (by simp only [A8]; rcases Nat.lt_or_ge 8 d.Orders.length with h | h <;> simp <;> omega)))
 intro h23
 have hd : goodDealR d = goodOs d.Orders := by (unfold goodDealR; rw [Aw6] at h23; simp only [A8] at h23; rw [show (((d.States.length : Int)) != (d.Cuts.length : Int) + 1) = !decide (d.States.length = d.Cuts.length + 1) from by rw [← Af8]; rfl] at h23; cases h1 : l15Cuts d.Cuts <;> cases h2 : d.States.all goodState <;> cases h3 : decide (d.States.length = d.Cuts.length + 1) <;> simp_all)
 refine C3 (A3 (A3 (A2 ?_)))
 refine A1 rfl (B1 2 rfl E8 rfl U4 (A0 rfl) rfl) ?_
 refine A1 rfl (B0 0 rfl (A0 rfl) rfl V7 rfl) ?_
 refine A1 rfl (F6 rfl I0 (A0 rfl)) ?_
 refine A1 rfl (B8 rfl B4) ?_
 refine A4 (C7 ?_)
 refine J0 [(1, _), (25, _), (26, _)] _ (fun (i : Nat) => i ≤ d.Orders.length ∧ (∀ o ∈ d.Orders.take i, orderR o = true) ∧ ∀ (a j : Nat) (o p : TOrder), a < i → d.Orders[a]? = some o → d.Orders[j]? = some p → j < a → o.Txn ≠ p.Txn) (fun (i : Nat) => []) (fun (i : Nat) => [(27, AV.int i)]) (fun (i : Nat) => d.Orders.length - i) (0) ?_ (O8 (by rfl) ⟨rfl, rfl, rfl, rfl, trivial⟩) ?_
 ·exact ⟨Nat.zero_le _, fun o ho => (by cases ho), fun a j o p ha => by omega⟩
 intro i hinv
 refine A3 (A2 ?_)
 refine A1 rfl (J8 rfl (A0 rfl) (A0 rfl)) ?_
 refine A4 (A3 ?_)
 refine B9 (A0 rfl) ?_ ?_
 ·intro h28
  have k28 := of_decide_eq_true h28; try simp only [A8] at k28
  have hlt : i < d.Orders.length := by (simpa using h28)
  obtain ⟨x, hx⟩ := get_some hlt
  have hxs := ho x (F9 hx)
  refine C3 (A3 (C7 (A3 (A2 ?_))))
  refine A5 rfl ?_
  refine A1 rfl (I2 rfl I0 H4 (A0 rfl) (A0 rfl) hx (by first | omega | (simp only [C8, A7, szR] at *; omega))) ?_
  refine A1 rfl (K6 rfl (A0 rfl) Q4 H4) ?_
  refine F5 rfl rfl rfl rfl Tryz.zeroValue32 rfl ?_
  intro b4
  refine B3 rfl ?_
  refine D2 0 rfl rfl rfl (A0 rfl) (A0 rfl) (D6 _) rfl H4 rfl ?_
  refine A4 (A3 (A2 ?_))
  refine A1 rfl (F1 0 rfl (A0 rfl) rfl Q4 H4 rfl) ?_
  refine A1 rfl (D7 rfl Tryz.call35 rfl (AU9 x hxs) (A6 (A0 rfl) C0)) ?_
  refine A1 rfl (M2 rfl (A0 rfl)) ?_
  refine A5 rfl ?_
  refine F3 rfl (fun hc => B1 2 rfl E8 rfl U4 (A0 rfl) rfl) ?_
  refine F3 rfl (fun hc => B0 1 rfl (A9 rfl hc) rfl V7 rfl) ?_
  refine F3 rfl (fun hc => B8 rfl (A0 rfl)) ?_
  refine F3 rfl (fun hc => m8 rfl I0 H4 (A9 rfl hc) (A9 rfl hc) (by first | omega | ((try simp only [C8, A7, szR] at *); omega) | (have hc2 := hc; simp only [Q0, beq_iff_eq, bne_iff_ne, A8, D9] at hc2; omega)) (by first | omega | ((try simp only [C8, A7, szR] at *); omega) | (have hc2 := hc; simp only [Q0, beq_iff_eq, bne_iff_ne, A8, D9] at hc2; omega))) ?_
  refine F3 rfl (fun hc => Ar3 rfl rfl (A6 (A0 rfl) C0)) ?_
  refine F3 rfl (fun hc => j8 rfl Tryz.call59 rfl (AI3 (d.Orders.take i) (fun _ => True) (fun p => p.Txn == x.Txn) (fun _ _ => trivial)) (H2 _) (U9 (evb (A9 rfl hc)) (U9 (AC8 (Ar8 0 (A9 rfl hc) rfl) (AM4 Tryz.call60 (fun p hp => Ai7 _ p))) Z8))) ?_
  refine A1 rfl (Q8 rfl (A0 rfl) (F7 rfl)) ?_
  refine A4 ?_
  refine B9 (A0 rfl) ?_ ?_
  ·intro h42
   have he := deal_os (os_bad2 hx h42)
   rw [he]
   refine A3 (A2 ?_)
   refine A1 rfl (B6 rfl E9) ?_
   refine A4 ?_
   refine C2 ?_
   exact I3 rfl (C1 rfl (by first | rfl | exact congrArg AV.bool (by simp only [A8]; rcases Nat.lt_or_ge 8 d.Orders.length with h | h <;> simp <;> omega)))
  intro h42
  refine C3 (A2 ?_)
  refine A1 rfl (G0 rfl (A0 rfl) B4 (by first | omega | (simp only [C8, A7, szR] at *; omega))) ?_
  refine A5 rfl ?_
  refine A4 ?_
  refine K4 i (i + 1) ?_ ?_ (Le.trans (F8 [0] rfl) (K0 1 (by rfl) ⟨rfl, rfl, rfl, rfl, trivial⟩))
  ·exact ⟨by omega, fun q hq => by (rw [List.take_add_one, hx] at hq; rcases List.mem_append.1 hq with hq | hq; (exact hinv.2.1 q hq); (simp at hq; subst hq; exact (BE2 hx h42).1)), fun a j o p ha h1 h2 hj => by (rcases Nat.lt_or_ge a i with h3 | h3; (exact hinv.2.2 a j o p h3 h1 h2 hj); (have ei : a = i := (by omega); subst ei; rw [hx] at h1; injection h1 with h1; subst h1; exact (BE2 hx h42).2 j p (by omega) h2))⟩
  omega
 intro h28
 have k28 := of_decide_eq_false h28; try simp only [A8] at k28
 have hge : d.Orders.length ≤ i := by (simpa using h28)
 have hfin := BD8 (l := d.Orders) (fun o ho => hinv.2.1 o (by rw [List.take_of_length_le hge]; exact ho)) (fun a j o p h1 h2 hj => hinv.2.2 a j o p (by have := (List.getElem?_eq_some_iff.1 h1).1; omega) h1 h2 hj)
 rw [hd, hfin]
 refine G1 ?_
 refine A3 (A2 ?_)
 refine A1 rfl (B1 2 rfl E8 rfl U4 (A0 rfl) rfl) ?_
 refine A1 rfl (B0 0 rfl (A0 rfl) rfl V7 rfl) ?_
 refine A1 rfl (F6 rfl I0 (A0 rfl)) ?_
 refine A1 rfl (X2 rfl (A0 rfl) B4) ?_
 refine B3 rfl ?_
 refine A4 ?_
 refine C2 ?_
 exact I3 rfl (C1 rfl (by first | rfl | exact congrArg AV.bool (by simp only [A8]; rcases Nat.lt_or_ge 8 d.Orders.length with h | h <;> simp <;> omega)))
end Go.Proofs.YtoaoicnnimjbeaaGreat

namespace Go.Proofs.YtoaoicnnimjbeaaGreat
open Go Go.Proofs Go.RowKit Go.Shelf Go.M
attribute [local go_sem] Oper.semAt_some
def upto {α : Type} (f : Nat → α) (k : Nat) : List α := (List.range k).map f
theorem An3 {α : Type} (f : Nat → α) (k : Nat) : upto f (k + 1) = upto f k ++ [f k] := by simp [upto, List.range_succ]
theorem BA7 {α : Type} (f : Nat → α) (k : Nat) : (upto f k).length = k := by simp [upto]
def verV (v : TVer) : Value := .agg #[.int .i64 v.Time, .string ⟨v.Val.toArray⟩, .bool v.Gone]
def backF (zs : List TVer) (j : Nat) : Int × TVer := ((zs.length : Int) - 1 - j, zs[zs.length - 1 - j]?.getD default)
def VersAt (W : World) (b off : Nat) (zs : List TVer) : Prop := ∀ j v, zs[j]? = some v → W.cell? ⟨b, off + j * 3, none⟩ = some (.int .i64 v.Time) ∧ W.cell? ⟨b, off + j * 3 + 1, none⟩ = some (.string ⟨v.Val.toArray⟩) ∧ W.cell? ⟨b, off + j * 3 + 2, none⟩ = some (.bool v.Gone)
theorem VersAt.below {n₀ : Nat} {A B : World} {b off : Nat} {zs : List TVer} (h : Below n₀ A B) (hb : b < n₀) (k : VersAt A b off zs) : VersAt B b off zs := fun j v hv =>
  let ⟨h1, h2, h3⟩ := k j v hv
  ⟨(h.cell (p := ⟨b, _, none⟩) hb).trans h1, (h.cell (p := ⟨b, _, none⟩) hb).trans h2, (h.cell (p := ⟨b, _, none⟩) hb).trans h3⟩
set_option maxRecDepth 100000 in
set_option maxHeartbeats 2000000 in
theorem back1_in (F : Fence) (n : Nat) (hf : F.fn 161) (hro : F.round = none) (hn : 1 ≤ n) (l Bs n₀ b off cap : Nat) (zs : List TVer) (hreach : zs.length * 32 ≤ 140737488351232) (hb : b < n₀) (J Jx : List (Int × TVer) → World → Prop)
    (hY : ∀ pre x W, J pre W → pre.length < zs.length → YieldAt F (n - 1) Tryz.prog l #[.int .i64 x.1, verV x.2] W fun e W' =>
      (e = .returned (.bool true) ∧ J (pre ++ [x]) W' ∧ Below n₀ W W') ∨ (e = .returned (.bool false) ∧ Jx (pre ++ [x]) W'))
    (W : World) (hBs : W.cell? ⟨Bs, 0, none⟩ = some (.slice (some ⟨b, off, none⟩) zs.length cap)) (hBn : Bs < n₀) (hc : VersAt W b off zs) (h0 : J [] W) :
    CallsIn F n Tryz.prog 161 #[.func (.yield l) #[] #[], .pointer (some ⟨Bs, 0, none⟩)] W fun e W' => (∃ v, e = .returned v) ∧
      ((∃ ys, ys = upto (backF zs) zs.length ∧ J ys W') ∨ (∃ pre, (∃ k, k ≤ zs.length ∧ pre = upto (backF zs) k) ∧ Jx pre W')) := by
  refine callsIn_of_wp Tryz.func161 rfl hf ?_ hro
  simp only [Tryz.ntmps161, List.size_toArray, I5, N4, Nat.reduceAdd, Nat.reduceSub, Array.replicate_succ, Array.replicate_zero, List.push_toArray, List.append_toArray, List.nil_append, S2]
  gi_wp2
  gi_loopw [3] (fun i wr => ∃ k : Nat, k ≤ zs.length ∧ i = .int .i64 ((zs.length : Int) - 1 - k) ∧ J (upto (backF zs) k) wr ∧ Below n₀ W wr)
    (fun i _ => (intOf i + 1).toNat)
  case atStart => exact ⟨0, Nat.zero_le _, by simp, h0, Below.refl _ _⟩
  case round =>
    obtain ⟨k, hk, rfl, hJs, hnx⟩ := hrel
    have hBs' := (hnx.cell (p := ⟨Bs, 0, none⟩) hBn).trans hBs
    by_cases hlt : k < zs.length
    · have hz : zs[zs.length - 1 - k]? = some (backF zs k).2 := by unfold backF; rw [List.getElem?_eq_getElem (by omega)]; rfl
      obtain ⟨c1, c2, c3⟩ := (hc.below hnx hb) _ _ hz
      obtain ⟨fn, tmps, assign, body, hy, hR⟩ := hY _ (backF zs k) wr hJs (by rw [BA7]; exact hlt)
      have e0 : ((zs.length : Int) - 1 - k).toNat = zs.length - 1 - k := by omega
      have hge : (0 : Int) ≤ (zs.length : Int) - 1 - k := by omega
      have hltl : (zs.length : Int) - 1 - k < zs.length := by omega
      dsimp only [verV] at hy
      rw [show (backF zs k).1 = (zs.length : Int) - 1 - k from rfl] at hy
      gi_wp2
      refine hR.mono ?_
      rintro e W3 (⟨rfl, hJ3, hk3⟩ | ⟨rfl, hJx3⟩)
      · gi_wp2
        go_roundw
        case rel => exact ⟨k + 1, by omega, by simp; omega, by rw [An3]; exact hJ3, hnx.trans hk3⟩
        case measure => simp [intOf]; omega
      · gi_wp2
        refine bodyPost_ret (results_none rfl _ _ _) rfl ?_
        exact ⟨⟨_, rfl⟩, .inr ⟨_, ⟨k + 1, by omega, (An3 _ _).symm⟩, hJx3⟩⟩
    · obtain rfl : k = zs.length := by omega
      gi_wp2
      go_end0
      exact ⟨⟨_, rfl⟩, .inl ⟨_, rfl, hJs⟩⟩
set_option maxRecDepth 100000 in
set_option maxHeartbeats 1000000 in
theorem Aw7 (F : Fence) (n : Nat) (hf : F.fn 161) (hro : F.round = none) (l Bs cap : Nat) (oa : Option Addr) (J : List (Int × TVer) → World → Prop) (W : World) (hBs : W.cell? ⟨Bs, 0, none⟩ = some (.slice oa 0 cap)) (h0 : J [] W) :
    CallsIn F n Tryz.prog 161 #[.func (.yield l) #[] #[], .pointer (some ⟨Bs, 0, none⟩)] W fun e W' => (∃ v, e = .returned v) ∧ J [] W' := by
  refine callsIn_of_wp Tryz.func161 rfl hf ?_ hro
  simp only [Tryz.ntmps161, List.size_toArray, I5, N4, Nat.reduceAdd, Nat.reduceSub, Array.replicate_succ, Array.replicate_zero, List.push_toArray, List.append_toArray, List.nil_append, S2]
  gi_wp2
  gi_loopw [3] (fun i wr => i = .int .i64 (-1) ∧ J [] wr) (fun _ _ => 0)
  case atStart => exact ⟨rfl, h0⟩
  case round =>
    obtain ⟨rfl, hJs⟩ := hrel
    gi_wp2
    go_end0
    exact ⟨⟨_, rfl⟩, hJs⟩
set_option maxHeartbeats 1000000 in
theorem back_in (F : Fence) (n : Nat) (hf : F.fn 123) (hro : F.round = none) (a : Option Addr) (len cap : Nat) (w : World) :
    CallsIn F n Tryz.prog 123 #[.slice a len cap] w fun e w' => e = .returned (.func (.func 161) #[] #[.pointer (some ⟨w.heap.size, 0, none⟩)]) ∧ w' = w.alloc (.cells #[.slice a len cap] 113) := by
  refine callsIn_of_wp Tryz.func123 rfl hf ?_ hro
  simp only [Tryz.ntmps123, List.size_toArray, I5, N4, Nat.reduceAdd, Nat.reduceSub, Array.replicate_succ, Array.replicate_zero, List.push_toArray, List.append_toArray, List.nil_append, S2]
  gi_wp2
  go_ret
  exact ⟨rfl, rfl⟩
def VersIn (n₀ : Nat) (W : World) (oa : Option Addr) (zs : List TVer) : Prop := zs = [] ∨ ∃ b off, oa = some ⟨b, off, none⟩ ∧ b < n₀ ∧ VersAt W b off zs
theorem BJ2 (F : Fence) (n : Nat) (hf : F.fn 161) (hro : F.round = none) (hn : 1 ≤ n) (Bs n₀ : Nat) (oa : Option Addr) (cap : Nat) (zs : List TVer) (hreach : zs.length * 32 ≤ 140737488351232) (w : World) (hBn : Bs < n₀) (hn₀ : n₀ ≤ w.heap.size)
    (hc : w.cell? ⟨Bs, 0, none⟩ = some (.slice oa zs.length cap)) (hI : VersIn n₀ w oa zs) :
    SeqStopsK F n Tryz.prog 161 #[.pointer (some ⟨Bs, 0, none⟩)] (fun x : Int × TVer => #[Value.int .i64 x.1, verV x.2]) (Below n₀) (fun ys => ys = upto (backF zs) zs.length) (fun pre => ∃ k, k ≤ zs.length ∧ pre = upto (backF zs) k) zs.length w := fun l J Jx W hW _ _ hY h0 => by
  have hc' := (hW.cell (p := ⟨Bs, 0, none⟩) (show Bs < w.heap.size by omega)).trans hc
  rcases hI with rfl | ⟨b, off, rfl, hb, hcs⟩
  · exact (Aw7 F n hf hro l Bs cap oa J W hc' h0).mono fun e W' ⟨he, hj⟩ => ⟨he, .inl ⟨_, rfl, hj⟩⟩
  · exact back1_in F n hf hro hn l Bs n₀ b off cap zs hreach hb J Jx hY W hc' hBn (hcs.below (hW.mono hn₀) hb) h0
end Go.Proofs.YtoaoicnnimjbeaaGreat
