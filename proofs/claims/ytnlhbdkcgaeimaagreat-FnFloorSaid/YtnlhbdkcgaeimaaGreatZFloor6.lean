/- Texts of the claim, part 6. -/
import Derived.Test.YtnlhbdkcgaeimaaGreatZFloor5

set_option linter.unusedVariables false
set_option linter.unusedSimpArgs false
set_option maxRecDepth 100000
set_option maxHeartbeats 1000000
namespace Go.M
open Go.AV
theorem fullC_at {l : List TCell} {k : Str} {c : TCell} (hc : ¬ atC l k < 0 → findC l k = some c) : fullC l k = (decide ((0 : Int) ≤ atC l k) && decide ((16 : Int) ≤ (c.Vers.length : Int))) := by
  unfold fullC
  by_cases h : atC l k < 0
  · rw [At7 h, decide_eq_false (by omega)]; rfl
  · rw [hc h, decide_eq_true (by omega), Bool.true_and]
    dsimp only
    rw [decide_eq_decide]; omega
theorem at_some (l : List TCell) (k : Str) : ∃ c : TCell, ¬ atC l k < 0 → (∃ p : Nat, atC l k = (p : Int) ∧ l[p]? = some c) ∧ findC l k = some c := by
  by_cases h : atC l k < 0
  · exact ⟨⟨[], []⟩, fun k => absurd h k⟩
  · obtain ⟨p, c, h1, h2, h3⟩ := At8 h
    exact ⟨c, fun _ => ⟨⟨p, h1, h2⟩, h3⟩⟩
theorem AC3 {s : TState} {i : Nat} {h y : THeld} (hx : s.Held[i]? = some h) (hy : s.Held[i - 1]? = some y) : heldAt s i = (!((!l4Good (hRec h) || decide (s.Floor < h.Time)) || (decide ((0 : Int) < (i : Int)) && decide (h.Txn ≤ y.Txn))) && ((s.Held.take i).all (fun g => apart g h.Reads h.Writes) && h.Writes.all fun w => decide (lastTime s.Cells w.Key < h.Time))) := by
  rw [AA2 hx hy, AJ4]
  have h2 : ((s.Held.take i).all fun g => apart g h.Reads h.Writes) = !((s.Held.take i).any fun g => clash h g) := by
    rw [List.not_any_eq_all_not]; congr 1; funext g; rw [AF9, Bool.not_not]
  have h3 : (h.Writes.all fun w => decide (lastTime s.Cells w.Key < h.Time)) = !(h.Writes.any fun w => decide (h.Time ≤ lastTime s.Cells w.Key)) := by
    rw [List.not_any_eq_all_not]; congr 1; funext w; rw [← decide_not, decide_eq_decide]; omega
  rw [h2, h3]
theorem AK5 {s : TState} {i : Nat} {t y : TTold} (hx : s.Told[i]? = some t) (hy : s.Told[i - 1]? = some y) : toldAt s i = (!((((!within t.Txn 1 60 || (decide ((0 : Int) < (i : Int)) && decide (t.Txn ≤ y.Txn))) || (t.Yes && !within t.Time 1 s.Floor)) || (!t.Yes && (t.Time != 0)))) && !hasH s.Held t.Txn) := by
  rw [AE7 hx hy]
  congr 2
  show ((!within t.Txn 1 60 || _) || _) = _
  have e : (!((t.Yes && within t.Time 1 s.Floor) || (!t.Yes && (t.Time == 0)))) = ((t.Yes && !within t.Time 1 s.Floor) || (!t.Yes && (t.Time != 0))) := by
    show _ = ((t.Yes && !within t.Time 1 s.Floor) || (!t.Yes && !(t.Time == 0)))
    cases t.Yes <;> simp
  rw [e]
  cases within t.Txn 1 60 <;> cases (decide ((0 : Int) < (i : Int)) && decide (t.Txn ≤ y.Txn)) <;> cases (t.Yes && !within t.Time 1 s.Floor) <;> cases (!t.Yes && (t.Time != 0)) <;> rfl
def heldFO (l : List THeld) (n : Int) : THeld × Bool := match findH l n with | some h => (h, true) | none => (zHeld, false)
def toldFO (l : List TTold) (n : Int) : TTold × Bool := match findT l n with | some h => (h, true) | none => (zTold, false)
theorem AE9 (l : List THeld) (n : Int) : (heldFO l n).2 = hasH l n := by
  unfold heldFO
  cases h : findH l n with
  | none => exact (r6.1 h).symm
  | some x => obtain ⟨h1, h2⟩ := o4 h; exact (hasH_iff.2 ⟨x, h1, h2⟩).symm
theorem Ag7 (l : List TTold) (n : Int) : (toldFO l n).2 = hasT l n := by
  unfold toldFO
  cases h : findT l n with
  | none => exact (Ax8.1 h).symm
  | some x =>
    unfold findT at h
    exact (hasT_iff.2 ⟨x, List.mem_of_find?_eq_some h, by simpa using List.find?_some h⟩).symm
theorem AC4 {α : Type} {p : α → Bool} : ∀ {l : List α} {i : Nat} {x : α}, l[i]? = some x → p x = true → (∀ j y, j < i → l[j]? = some y → p y = false) → l.find? p = some x
  | [], i, x, h, _, _ => by simp at h
  | y :: l, 0, x, h, hp, _ => by simp at h; subst h; rw [List.find?_cons, hp]
  | y :: l, i + 1, x, h, hp, hn => by
    rw [List.find?_cons, hn 0 y (by omega) rfl]
    exact AC4 (by simpa using h) hp fun j z hj hz => hn (j + 1) z (by omega) (by simpa using hz)
theorem AW5 {α : Type} {p : α → Bool} {l : List α} (hn : ∀ (j : Nat) (y : α), l[j]? = some y → p y = false) : l.find? p = none := by
  rw [List.find?_eq_none]
  intro x hx
  obtain ⟨j, hj⟩ := List.getElem?_of_mem hx
  rw [hn j x hj]; decide
end Go.M
namespace Go.Proofs.YtnlhbdkcgaeimaaGreat
open Go Go.AV Go.M
attribute [local irreducible] OpW OpA OpS AWP FSpec ESpec GSpec OpE RetOk RetOkG RvDen Le Ev GuardIs SrcIs Int.tmod Int.tdiv IntKind.wrap
theorem AA8 (h : THeld) : FSpec Tryz.prog 89 [AV.agg h.cs] (AV.agg (hRec h).cs) := by
 refine E7 Tryz.func89 rfl Tryz.ntmps89 rfl ?_
 refine A3 (A2 ?_)
 refine M3 rfl rfl rfl rfl (A0 rfl) ?_
 intro b1
 refine G0 rfl rfl rfl rfl Tryz.zeroValue49 rfl ?_
 intro b2
 refine A4 (A3 (A2 ?_))
 refine A1 rfl rfl rfl (B3 0 rfl F1 rfl C0 (A0 rfl) rfl) ?_
 refine A1 rfl rfl rfl (B1 1 rfl (A0 rfl) rfl D0 rfl) ?_
 refine A1 rfl rfl rfl (B3 1 rfl F1 rfl C0 (A0 rfl) rfl) ?_
 refine A1 rfl rfl rfl (B1 1 rfl (A0 rfl) rfl D0 rfl) ?_
 refine A1 rfl rfl rfl (B3 2 rfl F1 rfl C0 (A0 rfl) rfl) ?_
 refine A1 rfl rfl rfl (B1 1 rfl (A0 rfl) rfl D0 rfl) ?_
 refine A1 rfl rfl rfl (B3 3 rfl F1 rfl L7 (A0 rfl) rfl) ?_
 refine A1 rfl rfl rfl (B1 1 rfl (A0 rfl) rfl N9 rfl) ?_
 refine A1 rfl rfl rfl (B3 4 rfl F1 rfl K2 (A0 rfl) rfl) ?_
 refine A1 rfl rfl rfl (B1 1 rfl (A0 rfl) rfl L8 rfl) ?_
 refine A1 rfl rfl rfl (N0 (places := #[(0, 1), (1, 1), (2, 1), (3, 1), (4, 1), (5, 1), (6, 1)]) rfl B6 Tryz.zeroValue49 (fun w => by kernel_rfl) rfl (E0 C4 (K9 _ _) (E0 (A0 rfl) (K9 _ _) (E0 (A0 rfl) (K9 _ _) (E0 (A0 rfl) (K9 _ _) (E0 (A0 rfl) (S2 _ _) (E0 (A0 rfl) (S2 _ _) H6)))))) rfl) ?_
 refine D5 0 rfl rfl rfl (A0 rfl) (A0 rfl) (E2 _) rfl F7 rfl ?_
 refine A4 ?_
 refine C8 ?_
 exact H9 rfl (J6 (ys := _) 0 rfl rfl K7 F7 rfl)
theorem AK6 (l : List TWrite) (k : Str) : FSpec Tryz.prog 218 [AV.list 3 (l.map TWrite.cs), AV.str k] (AV.bool (hasK l k)) := by
 refine E7 Tryz.func218 rfl Tryz.ntmps218 rfl ?_
 refine T1 (t := 0) rfl fun hl => ?_
 try simp only [A6] at hl
 refine A3 (A2 ?_)
 refine A1 rfl rfl rfl (C3 rfl F4) ?_
 refine A4 (A3 (A3 (A2 ?_)))
 refine A5 rfl rfl rfl rfl rfl ?_
 refine A1 rfl rfl rfl (G9 rfl F3 (A0 rfl)) ?_
 refine A1 rfl rfl rfl (C6 rfl C4) ?_
 refine A4 (D7 ?_)
 refine J9 [(1, _), (7, _), (8, _)] _ (fun (i : Nat) => i ≤ l.length ∧ hasK l k = (l.drop i).any (fun w => w.Key == k)) (fun (i : Nat) => []) (fun (i : Nat) => [(9, AV.int i)]) (fun (i : Nat) => l.length - i) (0) ?_ (J8 ⟨rfl, rfl, rfl, rfl, trivial⟩) ?_
 ·exact ⟨Nat.zero_le _, rfl⟩
 intro i hinv
 refine A3 (A2 ?_)
 refine A1 rfl rfl rfl (K6 rfl (A0 rfl) (A0 rfl)) ?_
 refine A4 (A3 ?_)
 refine C7 (A0 rfl) ?_ ?_
 ·intro h10
  have k10 := of_decide_eq_true h10; try simp only [A6] at k10
  have hlt : i < l.length := by omega
  obtain ⟨x, hx⟩ := get_some hlt
  refine D2 (A3 (D7 (A3 (A2 ?_))))
  refine A1 rfl rfl rfl (I7 rfl F3 H7 (A0 rfl) (A0 rfl) hx (by first | omega | (simp only [A6, A7, B2, B7, A8, szR] at *; omega))) ?_
  refine A1 rfl rfl rfl (K4 rfl (A0 rfl) S5 H7) ?_
  refine G0 rfl rfl rfl rfl Tryz.zeroValue77 rfl ?_
  intro b6
  refine D5 0 rfl rfl rfl (A0 rfl) (A0 rfl) (E2 _) rfl H7 rfl ?_
  refine A4 (A3 (A2 ?_))
  refine A1 rfl rfl rfl (B3 0 rfl I1 rfl F5 (A0 rfl) rfl) ?_
  refine A1 rfl rfl rfl (B1 0 rfl (A0 rfl) rfl H1 rfl) ?_
  refine A5 rfl rfl rfl rfl rfl ?_
  refine A1 rfl rfl rfl (y5 rfl (A0 rfl) (A0 rfl)) ?_
  refine A4 ?_
  refine C7 (A0 rfl) ?_ ?_
  ·intro h16
   refine A3 (A2 ?_)
   refine A1 rfl rfl rfl (C3 rfl F4) ?_
   refine A4 ?_
   refine C8 ?_
   exact H9 rfl (C5 rfl (by first | exact congrArg AV.bool (by rw [hinv.2, drop_some hx, List.any_cons, h16]; rfl) | exact congrArg AV.bool (by rw [hinv.2, List.drop_eq_nil_of_le hge]; rfl)))
  ·intro h16
   refine D2 (A2 ?_)
   refine A1 rfl rfl rfl (G7 rfl (A0 rfl) C4 (by first | omega | (simp only [A6, A7, B2, B7, A8, szR] at *; omega))) ?_
   refine A5 rfl rfl rfl rfl rfl ?_
   refine A4 ?_
   refine L4 i (i + 1) ?_ ?_ (T9 1 ⟨rfl, rfl, rfl, rfl, trivial⟩)
   ·exact ⟨by omega, by rw [hinv.2, drop_some hx, List.any_cons, h16]; rfl⟩
   ·omega
 ·intro h10
  have k10 := of_decide_eq_false h10; try simp only [A6] at k10
  have hge : l.length ≤ i := by omega
  refine H3 ?_
  refine A3 (A2 ?_)
  refine A1 rfl rfl rfl (C3 rfl F4) ?_
  refine A4 ?_
  refine C8 ?_
  exact H9 rfl (C5 rfl (by first | exact congrArg AV.bool (by rw [hinv.2, drop_some hx, List.any_cons, h16]; rfl) | exact congrArg AV.bool (by rw [hinv.2, List.drop_eq_nil_of_le hge]; rfl)))
theorem Ay0 (l : List Str) (k : Str) : FSpec Tryz.prog 270 [strs l, AV.str k] (AV.bool (hasS l k)) := by
 refine E7 Tryz.func270 rfl Tryz.ntmps270 rfl ?_
 refine T1 (t := 0) rfl fun hl => ?_
 try simp only [A6] at hl
 refine A3 (A2 ?_)
 refine A1 rfl rfl rfl (C3 rfl F4) ?_
 refine A4 (A3 (A3 (A2 ?_)))
 refine A5 rfl rfl rfl rfl rfl ?_
 refine A1 rfl rfl rfl (G9 rfl E4 (A0 rfl)) ?_
 refine A1 rfl rfl rfl (C6 rfl C4) ?_
 refine A4 (D7 ?_)
 refine J9 [(1, _), (7, _), (8, _)] _ (fun (i : Nat) => i ≤ l.length ∧ hasS l k = (l.drop i).any (fun x => k == x)) (fun (i : Nat) => []) (fun (i : Nat) => [(9, AV.int i)]) (fun (i : Nat) => l.length - i) (0) ?_ (J8 ⟨rfl, rfl, rfl, rfl, trivial⟩) ?_
 ·exact ⟨Nat.zero_le _, rfl⟩
 intro i hinv
 refine A3 (A2 ?_)
 refine A1 rfl rfl rfl (K6 rfl (A0 rfl) (A0 rfl)) ?_
 refine A4 (A3 ?_)
 refine C7 (A0 rfl) ?_ ?_
 ·intro h10
  have k10 := of_decide_eq_true h10; try simp only [A6] at k10
  have hlt : i < l.length := by omega
  obtain ⟨x, hx⟩ := get_some hlt
  refine D2 (A3 (D7 (A3 (A2 ?_))))
  refine A1 rfl rfl rfl (I7 rfl E4 F5 (A0 rfl) (A0 rfl) hx (by first | omega | (simp only [A6, A7, B2, B7, A8, szR] at *; omega))) ?_
  refine A1 rfl rfl rfl (N6 rfl (A0 rfl) H1 rfl) ?_
  refine B9 rfl rfl rfl rfl rfl ?_
  refine A4 (A3 (A2 ?_))
  refine A5 rfl rfl rfl rfl rfl ?_
  refine A5 rfl rfl rfl rfl rfl ?_
  refine A1 rfl rfl rfl (y5 rfl (A0 rfl) (A0 rfl)) ?_
  refine A4 ?_
  refine C7 (A0 rfl) ?_ ?_
  ·intro h15
   refine A3 (A2 ?_)
   refine A1 rfl rfl rfl (C3 rfl F4) ?_
   refine A4 ?_
   refine C8 ?_
   exact H9 rfl (C5 rfl (by first | exact congrArg AV.bool (by rw [hinv.2, drop_some hx, List.any_cons, show (k == x) = true from by have h9 := h15; simp at h9 ⊢; exact h9.symm]; rfl) | exact congrArg AV.bool (by rw [hinv.2, List.drop_eq_nil_of_le hge]; rfl)))
  ·intro h15
   refine D2 (A2 ?_)
   refine A1 rfl rfl rfl (G7 rfl (A0 rfl) C4 (by first | omega | (simp only [A6, A7, B2, B7, A8, szR] at *; omega))) ?_
   refine A5 rfl rfl rfl rfl rfl ?_
   refine A4 ?_
   refine L4 i (i + 1) ?_ ?_ (J8 ⟨rfl, rfl, rfl, rfl, trivial⟩)
   ·exact ⟨by omega, by rw [hinv.2, drop_some hx, List.any_cons, show (k == x) = false from by have h9 := h15; simp at h9 ⊢; exact fun e => h9 e.symm]; rfl⟩
   ·omega
 ·intro h10
  have k10 := of_decide_eq_false h10; try simp only [A6] at k10
  have hge : l.length ≤ i := by omega
  refine H3 ?_
  refine A3 (A2 ?_)
  refine A1 rfl rfl rfl (C3 rfl F4) ?_
  refine A4 ?_
  refine C8 ?_
  exact H9 rfl (C5 rfl (by first | exact congrArg AV.bool (by rw [hinv.2, drop_some hx, List.any_cons, show (k == x) = true from by have h9 := h15; simp at h9 ⊢; exact h9.symm]; rfl) | exact congrArg AV.bool (by rw [hinv.2, List.drop_eq_nil_of_le hge]; rfl)))
theorem apart_spec (h : THeld) (rs : List Str) (ws : List TWrite) : FSpec Tryz.prog 222 [AV.agg h.cs, strs rs, AV.list 3 (ws.map TWrite.cs)] (AV.bool (apart h rs ws)) := by
 refine E7 Tryz.func222 rfl Tryz.ntmps222 rfl ?_
 refine T1 (t := 1) rfl fun hl1 => ?_
 try simp only [A6] at hl1
 refine T1 (t := 2) rfl fun hl2 => ?_
 try simp only [A6] at hl2
 refine A3 (A2 ?_)
 refine M3 rfl rfl rfl rfl (A0 rfl) ?_
 intro b3
 refine A1 rfl rfl rfl (C3 rfl F4) ?_
 refine A4 (A3 (A3 (A2 ?_)))
 refine A5 rfl rfl rfl rfl rfl ?_
 refine A1 rfl rfl rfl (G9 rfl E4 (A0 rfl)) ?_
 refine A1 rfl rfl rfl (C6 rfl C4) ?_
 refine A4 (D7 ?_)
 refine J9 [(2, _), (3, _), (11, _), (12, _)] _ (fun (i : Nat) => i ≤ rs.length ∧ (rs.all fun k => !hasK h.Writes k) = ((rs.drop i).all fun k => !hasK h.Writes k)) (fun (i : Nat) => []) (fun (i : Nat) => [(13, AV.int i)]) (fun (i : Nat) => rs.length - i) (0) ?_ (J8 ⟨rfl, rfl, rfl, rfl, rfl, trivial⟩) ?_
 ·exact ⟨Nat.zero_le _, rfl⟩
 intro i hinv
 refine A3 (A2 ?_)
 refine A1 rfl rfl rfl (K6 rfl (A0 rfl) (A0 rfl)) ?_
 refine A4 (A3 ?_)
 refine C7 (A0 rfl) ?_ ?_
 ·intro h14
  have k14 := of_decide_eq_true h14; try simp only [A6] at k14
  have hlt : i < rs.length := by omega
  obtain ⟨x, hx⟩ := get_some hlt
  refine D2 (A3 (D7 (A3 (A2 ?_))))
  refine A1 rfl rfl rfl (I7 rfl E4 F5 (A0 rfl) (A0 rfl) hx (by first | omega | (simp only [A6, A7, B2, B7, A8, szR] at *; omega))) ?_
  refine A1 rfl rfl rfl (N6 rfl (A0 rfl) H1 rfl) ?_
  refine B9 rfl rfl rfl rfl rfl ?_
  refine A4 (A3 (A2 ?_))
  refine A1 rfl rfl rfl (B3 4 rfl F1 rfl K2 (A0 rfl) rfl) ?_
  refine A1 rfl rfl rfl (B1 0 rfl (A0 rfl) rfl L8 rfl) ?_
  refine A5 rfl rfl rfl rfl rfl ?_
  refine A1 rfl rfl rfl (E5 rfl Tryz.call218 rfl (AK6 _ _) (A9 (A0 rfl) (A9 (A0 rfl) D1))) ?_
  refine A4 ?_
  refine C7 (A0 rfl) ?_ ?_
  ·intro h20
   have hfin : apart h rs ws = false := by (unfold apart; rw [hinv.2, drop_some hx, List.all_cons, h20]; rfl)
   refine A3 (A2 ?_)
   refine A1 rfl rfl rfl (C3 rfl F4) ?_
   refine A4 ?_
   refine C8 ?_
   exact H9 rfl (C5 rfl (by exact congrArg AV.bool hfin.symm))
  ·intro h20
   refine D2 (A2 ?_)
   refine A1 rfl rfl rfl (G7 rfl (A0 rfl) C4 (by first | omega | (simp only [A6, A7, B2, B7, A8, szR] at *; omega))) ?_
   refine A5 rfl rfl rfl rfl rfl ?_
   refine A4 ?_
   refine L4 i (i + 1) ?_ ?_ (J8 ⟨rfl, rfl, rfl, rfl, rfl, trivial⟩)
   ·exact ⟨by omega, by rw [hinv.2, drop_some hx, List.all_cons, h20]; rfl⟩
   ·omega
 ·intro h14
  have k14 := of_decide_eq_false h14; try simp only [A6] at k14
  have hge : rs.length ≤ i := by omega
  have hr : (rs.all fun k => !hasK h.Writes k) = true := by (rw [hinv.2, List.drop_eq_nil_of_le hge]; rfl)
  refine H3 ?_
  refine A3 (A3 (A2 ?_))
  refine A5 rfl rfl rfl rfl rfl ?_
  refine A1 rfl rfl rfl (G9 rfl F3 (A0 rfl)) ?_
  refine A1 rfl rfl rfl (C6 rfl C4) ?_
  refine A4 (D7 ?_)
  refine J9 [(3, _), (22, _), (23, _)] _ (fun (q : Nat) => q ≤ ws.length ∧ (ws.all fun w => !(hasK h.Writes w.Key || hasS h.Reads w.Key)) = ((ws.drop q).all fun w => !(hasK h.Writes w.Key || hasS h.Reads w.Key))) (fun (q : Nat) => []) (fun (q : Nat) => [(24, AV.int q)]) (fun (q : Nat) => ws.length - q) (0) ?_ (J8 ⟨rfl, rfl, rfl, rfl, trivial⟩) ?_
  ·exact ⟨Nat.zero_le _, rfl⟩
  intro q hinv
  refine A3 (A2 ?_)
  refine A1 rfl rfl rfl (K6 rfl (A0 rfl) (A0 rfl)) ?_
  refine A4 (A3 ?_)
  refine C7 (A0 rfl) ?_ ?_
  ·intro h25
   have k25 := of_decide_eq_true h25; try simp only [A6] at k25
   have hlt : q < ws.length := by omega
   obtain ⟨x, hx⟩ := get_some hlt
   refine D2 (A3 (D7 (A3 (A2 ?_))))
   refine A1 rfl rfl rfl (I7 rfl F3 H7 (A0 rfl) (A0 rfl) hx (by first | omega | (simp only [A6, A7, B2, B7, A8, szR] at *; omega))) ?_
   refine A1 rfl rfl rfl (K4 rfl (A0 rfl) S5 H7) ?_
   refine G0 rfl rfl rfl rfl Tryz.zeroValue77 rfl ?_
   intro b10
   refine D5 0 rfl rfl rfl (A0 rfl) (A0 rfl) (E2 _) rfl H7 rfl ?_
   refine A4 (A3 (A2 ?_))
   refine A1 rfl rfl rfl (B3 4 rfl F1 rfl K2 (A0 rfl) rfl) ?_
   refine A1 rfl rfl rfl (B1 1 rfl (A0 rfl) rfl L8 rfl) ?_
   refine A1 rfl rfl rfl (B3 0 rfl I1 rfl F5 (A0 rfl) rfl) ?_
   refine A1 rfl rfl rfl (B1 0 rfl (A0 rfl) rfl H1 rfl) ?_
   refine A1 rfl rfl rfl (E5 rfl Tryz.call218 rfl (AK6 _ _) (A9 (A0 rfl) (A9 (A0 rfl) D1))) ?_
   refine A5 rfl rfl rfl rfl rfl ?_
   refine B4 rfl rfl (D4 rfl rfl rfl) (fun hc => B3 3 rfl F1 rfl L7 (A0 rfl) rfl) ?_
   refine B4 rfl rfl (D4 rfl rfl rfl) (fun hc => B1 1 rfl (B0 rfl hc) rfl N9 rfl) ?_
   refine B4 rfl rfl (D4 rfl rfl rfl) (fun hc => B3 0 rfl I1 rfl F5 (A0 rfl) rfl) ?_
   refine B4 rfl rfl (D4 rfl rfl rfl) (fun hc => B1 0 rfl (B0 rfl hc) rfl H1 rfl) ?_
   refine B4 rfl rfl (D4 rfl rfl rfl) (fun hc => E5 rfl Tryz.call270 rfl (Ay0 _ _) (A9 (B0 rfl hc) (A9 (B0 rfl hc) D1))) ?_
   refine A1 rfl rfl rfl (Q4 rfl (A0 rfl) (G4 rfl)) ?_
   refine A4 ?_
   refine C7 (A0 rfl) ?_ ?_
   ·intro h39
    have hfin : apart h rs ws = false := by (unfold apart; rw [hinv.2, drop_some hx, List.all_cons, h39]; simp)
    refine A3 (A2 ?_)
    refine A1 rfl rfl rfl (C3 rfl F4) ?_
    refine A4 ?_
    refine C8 ?_
    exact H9 rfl (C5 rfl (by exact congrArg AV.bool hfin.symm))
   ·intro h39
    refine D2 (A2 ?_)
    refine A1 rfl rfl rfl (G7 rfl (A0 rfl) C4 (by first | omega | (simp only [A6, A7, B2, B7, A8, szR] at *; omega))) ?_
    refine A5 rfl rfl rfl rfl rfl ?_
    refine A4 ?_
    refine L4 q (q + 1) ?_ ?_ (T9 1 ⟨rfl, rfl, rfl, rfl, trivial⟩)
    ·exact ⟨by omega, by rw [hinv.2, drop_some hx, List.all_cons, h39]; rfl⟩
    ·omega
  ·intro h25
   have k25 := of_decide_eq_false h25; try simp only [A6] at k25
   have hge : ws.length ≤ q := by omega
   have hfin : apart h rs ws = true := by (unfold apart; rw [hr, hinv.2, List.drop_eq_nil_of_le hge]; rfl)
   refine H3 ?_
   refine A3 (A2 ?_)
   refine A1 rfl rfl rfl (C3 rfl F4) ?_
   refine A4 ?_
   refine C8 ?_
   exact H9 rfl (C5 rfl (by exact congrArg AV.bool hfin.symm))
theorem Aa1 (s : TState) (ws : List TWrite) (hs : s.size ≤ 400000) (hw : sizeL TWrite.size ws ≤ 400000) : FSpec Tryz.prog 223 [AV.agg s.cs, AV.list 3 (ws.map TWrite.cs)] (AV.bool (room s.Cells (ws ++ hWs s.Held))) := by
 obtain ⟨hs1, hs2, hs3, hs4, hs5⟩ := R9 hs
 have hsum : sizeL TCell.size s.Cells + sizeL THeld.size s.Held ≤ 400000 := by have h9 : s.size = sizeL TCell.size s.Cells + sizeL THeld.size s.Held + s.Told.length := rfl; omega
 have hcl := O2 (f := TCell.size) (l := s.Cells)
 have hwl := O2 (f := TWrite.size) (l := ws)
 have hhl := AR8 (l := s.Held)
 obtain ⟨p, hp⟩ : ∃ p : TWrite → Bool, p = fun w => !fullC s.Cells w.Key := ⟨_, rfl⟩
 obtain ⟨al, hal⟩ : ∃ al, ws ++ hWs s.Held = al := ⟨_, rfl⟩
 have hall : al.length ≤ 800000 - s.Cells.length := by rw [← hal, J1]; omega
 rw [hal]
 refine E7 Tryz.func223 rfl Tryz.ntmps223 rfl ?_
 refine A3 (A2 ?_)
 refine M3 rfl rfl rfl rfl (A0 rfl) ?_
 intro b2
 refine A1 rfl rfl rfl (C3 rfl F4) ?_
 refine A4 (A3 (A2 ?_))
 refine Q5 9 1 rfl rfl rfl rfl K5 ?_
 intro v5
 refine A4 (A3 (A3 (A2 ?_)))
 refine A1 rfl rfl rfl (B3 1 rfl B8 rfl M7 (A0 rfl) rfl) ?_
 refine A1 rfl rfl rfl (B1 1 rfl (A0 rfl) rfl P5 rfl) ?_
 refine A1 rfl rfl rfl (G9 rfl D8 (A0 rfl)) ?_
 refine A1 rfl rfl rfl (C6 rfl C4) ?_
 refine A4 (D7 ?_)
 refine R8 [(1, _), (2, _), (4, _), (15, _), (16, _)] _ (fun (i : Nat) (v : Value) => i ≤ s.Cells.length) (fun (i : Nat) (v : Value) => [.arr v 9 1 ((putAllS (cKeys (s.Cells.take i)) []).map fun s => [AV.str s])]) (fun (i : Nat) (v : Value) => [(5, AV.is v), (17, AV.int i)]) (fun (i : Nat) (v : Value) => s.Cells.length - i) (0) (v5) ?_ (S7 (by rfl) ⟨rfl, rfl, rfl, rfl, rfl, rfl, rfl, trivial⟩) ?_
 ·exact Nat.zero_le _
 intro i v hinv
 refine A3 (A2 ?_)
 refine A1 rfl rfl rfl (K6 rfl (A0 rfl) (A0 rfl)) ?_
 refine A4 (A3 ?_)
 refine C7 (A0 rfl) ?_ ?_
 ·intro h18
  have k18 := of_decide_eq_true h18; try simp only [A6] at k18
  have hlt : i < s.Cells.length := by omega
  obtain ⟨c, hx⟩ := get_some hlt
  have hpl := AF8 (cKeys (s.Cells.take i)) []
  unfold cKeys at hpl
  simp only [A6, A7, B7] at hpl
  refine D2 (A3 (D7 (A3 (A2 ?_))))
  refine A1 rfl rfl rfl (I7 rfl D8 F0 (A0 rfl) (A0 rfl) hx (by first | omega | (simp only [A6, A7, B2, B7, A8, szR] at *; omega))) ?_
  refine A1 rfl rfl rfl (K4 rfl (A0 rfl) S9 F0) ?_
  refine G0 rfl rfl rfl rfl Tryz.zeroValue142 rfl ?_
  intro b7
  refine D5 0 rfl rfl rfl (A0 rfl) (A0 rfl) (E2 _) rfl F0 rfl ?_
  refine A4 (A2 ?_)
  refine A5 rfl rfl rfl rfl rfl ?_
  refine A1 rfl rfl rfl (B3 0 rfl G5 rfl F5 (A0 rfl) rfl) ?_
  refine A1 rfl rfl rfl (B1 0 rfl (A0 rfl) rfl H1 rfl) ?_
  refine I2 [1] rfl rfl rfl rfl Tryz.call122 rfl (AK4 v (putAllS (cKeys (s.Cells.take i)) []) c.Key (w5 List.Pairwise.nil).1 (by unfold cKeys; omega)) (A9 (A0 rfl) (A9 (A0 rfl) D1)) rfl ?_
  intro x24 ok24
  refine B9 rfl rfl rfl rfl rfl ?_
  refine A4 (A2 ?_)
  refine A1 rfl rfl rfl (G7 rfl (A0 rfl) C4 (by first | omega | (simp only [A6, A7, B2, B7, A8, szR] at *; omega))) ?_
  refine A5 rfl rfl rfl rfl rfl ?_
  refine A4 ?_
  refine Q1 i v (i + 1) (x24) ?_ ?_ (Le.trans (I8 [1, 0] rfl) (M1 1 (by exact congrArg (fun z => Own.arr _ 9 1 (List.map (fun s => [AV.str s]) z) :: _) (by unfold cKeys; rw [List.take_add_one, hx, List.map_append]; exact (AN8 _ _ _).symm)) ⟨rfl, rfl, rfl, rfl, rfl, rfl, rfl, trivial⟩))
  ·omega
  ·omega
 ·intro h18
  have k18 := of_decide_eq_false h18; try simp only [A6] at k18
  have hge : s.Cells.length ≤ i := by omega
  rw [List.take_of_length_le hge]
  refine H3 ?_
  refine A3 (A2 ?_)
  refine S4 rfl rfl rfl rfl F3 H7 ?_
  intro v26
  refine A5 rfl rfl rfl rfl rfl ?_
  refine L5 (by' := 40) 0 rfl rfl rfl rfl F3 Tryz.type77 rfl rfl rfl rfl rfl rfl (A0 rfl) (A0 rfl) rfl (by simp only [B7, A6]; omega) ?_
  intro v28_1
  refine B9 rfl rfl rfl rfl rfl ?_
  refine A4 (A3 (A3 (A2 ?_)))
  refine A1 rfl rfl rfl (B3 2 rfl B8 rfl E9 (A0 rfl) rfl) ?_
  refine A1 rfl rfl rfl (B1 2 rfl (A0 rfl) rfl I3 rfl) ?_
  refine A1 rfl rfl rfl (G9 rfl C9 (A0 rfl)) ?_
  refine A1 rfl rfl rfl (C6 rfl C4) ?_
  refine A4 (D7 ?_)
  refine V0 [(2, _), (4, _), (5, _), (30, _), (31, _)] _ (fun (q : Nat) (u : Value) (a : List TWrite) => q ≤ s.Held.length ∧ a = ws ++ hWs (s.Held.take q)) (fun (q : Nat) (u : Value) (a : List TWrite) => [.arr u 77 3 (a.map TWrite.cs)]) (fun (q : Nat) (u : Value) (a : List TWrite) => [(8, AV.is u), (32, AV.int q)]) (fun (q : Nat) (u : Value) (a : List TWrite) => s.Held.length - q) (0) (v28_1) (ws) ?_ (S7 (by rfl) ⟨rfl, rfl, rfl, rfl, rfl, rfl, rfl, trivial⟩) ?_
  ·exact ⟨Nat.zero_le _, by rw [List.take_zero]; exact (List.append_nil _).symm⟩
  intro q u a hinv
  refine A3 (A2 ?_)
  refine A1 rfl rfl rfl (K6 rfl (A0 rfl) (A0 rfl)) ?_
  refine A4 (A3 ?_)
  refine C7 (A0 rfl) ?_ ?_
  ·intro h33
   have k33 := of_decide_eq_true h33; try simp only [A6] at k33
   have hlt : q < s.Held.length := by omega
   obtain ⟨h, hx⟩ := get_some hlt
   obtain ⟨g1, g2, g3, g4, g5⟩ := U2 hs2 hx
   have hwt := AR8 (l := s.Held.take q)
   have hwt2 := AL3 (f := THeld.size) (l := s.Held) q
   have hal9 : a.length ≤ 800000 := by (rw [hinv.2, J1]; omega)
   refine D2 (A3 (D7 (A3 (A2 ?_))))
   refine A1 rfl rfl rfl (I7 rfl C9 D3 (A0 rfl) (A0 rfl) hx (by first | omega | (simp only [A6, A7, B2, B7, A8, szR] at *; omega))) ?_
   refine A1 rfl rfl rfl (K4 rfl (A0 rfl) I0 D3) ?_
   refine G0 rfl rfl rfl rfl Tryz.zeroValue45 rfl ?_
   intro b10
   refine D5 0 rfl rfl rfl (A0 rfl) (A0 rfl) (E2 _) rfl D3 rfl ?_
   refine A4 (A2 ?_)
   refine A5 rfl rfl rfl rfl rfl ?_
   refine A1 rfl rfl rfl (B3 4 rfl F1 rfl K2 (A0 rfl) rfl) ?_
   refine A1 rfl rfl rfl (B1 0 rfl (A0 rfl) rfl L8 rfl) ?_
   refine L5 (by' := 40) 1 rfl rfl rfl rfl F3 Tryz.type77 rfl rfl rfl rfl rfl rfl (A0 rfl) (A0 rfl) rfl (by simp only [J1, A6]; omega) ?_
   intro v39_2
   refine B9 rfl rfl rfl rfl rfl ?_
   refine A4 (A2 ?_)
   refine A1 rfl rfl rfl (G7 rfl (A0 rfl) C4 (by first | omega | (simp only [A6, A7, B2, B7, A8, szR] at *; omega))) ?_
   refine A5 rfl rfl rfl rfl rfl ?_
   refine A4 ?_
   refine T5 q u a (q + 1) (v39_2) (a ++ h.Writes) ?_ ?_ (Le.trans (I8 [0, 0] rfl) (M1 1 (by (rw [List.map_append]; rfl)) ⟨rfl, rfl, rfl, rfl, rfl, rfl, rfl, trivial⟩))
   ·exact ⟨by omega, by rw [hinv.2, Am7 hx, List.append_assoc]⟩
   ·omega
  ·intro h33
   have k33 := of_decide_eq_false h33; try simp only [A6] at k33
   have hge : s.Held.length ≤ q := by omega
   have ha9 : a = al := by (rw [hinv.2, List.take_of_length_le hge, hal])
   subst ha9
   refine H3 ?_
   refine A3 (A3 (A2 ?_))
   refine A5 rfl rfl rfl rfl rfl ?_
   refine A1 rfl rfl rfl (U9 0 rfl F3 (A0 rfl) rfl) ?_
   refine A1 rfl rfl rfl (C6 rfl C4) ?_
   refine A4 (D7 ?_)
   refine AWP.le (I8 [1] rfl) ?_
   refine V0 [(2, _), (41, _), (42, _)] _ (fun (r : Nat) (v2 : Value) (ks : List Str) => r ≤ a.length ∧ a.all p = (a.drop r).all p ∧ ks = putAllS (cKeys s.Cells ++ wKeys (a.take r)) []) (fun (r : Nat) (v2 : Value) (ks : List Str) => [.arr v2 9 1 (ks.map fun s => [AV.str s])]) (fun (r : Nat) (v2 : Value) (ks : List Str) => [(5, AV.is v2), (43, AV.int r)]) (fun (r : Nat) (v2 : Value) (ks : List Str) => a.length - r) (0) (v) (putAllS (cKeys s.Cells) []) ?_ (S7 (by rfl) ⟨rfl, rfl, rfl, rfl, rfl, trivial⟩) ?_
   ·exact ⟨Nat.zero_le _, rfl, by rw [List.take_zero]; exact congrArg (fun z => putAllS z []) (List.append_nil _).symm⟩
   intro r v2 ks hinv
   refine A3 (A2 ?_)
   refine A1 rfl rfl rfl (K6 rfl (A0 rfl) (A0 rfl)) ?_
   refine A4 (A3 ?_)
   refine C7 (A0 rfl) ?_ ?_
   ·intro h44
    have k44 := of_decide_eq_true h44; try simp only [A6] at k44
    have hlt : r < a.length := by omega
    obtain ⟨w, hx⟩ := get_some hlt
    obtain ⟨c, hc0⟩ := at_some s.Cells w.Key
    have hfu := fullC_at (l := s.Cells) (k := w.Key) (c := c) (fun h9 => (hc0 h9).2)
    have hpl := AF8 (cKeys s.Cells ++ wKeys (a.take r)) []
    unfold cKeys wKeys at hpl
    simp only [J1, A6, A7, B7] at hpl
    refine D2 (A3 (D7 (A3 (A2 ?_))))
    refine A1 rfl rfl rfl (U4 1 rfl F3 H7 (A0 rfl) rfl (A0 rfl) (by omega) (by try simp only [A6]; omega)) ?_
    refine A1 rfl rfl rfl (q8 1 rfl (A0 rfl) rfl S5 H7 (by rw [Int.toNat_natCast, List.getElem?_map, hx]; rfl) (by decide)) ?_
    refine G0 rfl rfl rfl rfl Tryz.zeroValue77 rfl ?_
    intro b12
    refine D5 0 rfl rfl rfl (A0 rfl) (A0 rfl) (E2 _) rfl H7 rfl ?_
    refine A4 (A3 (A2 ?_))
    refine A5 rfl rfl rfl rfl rfl ?_
    refine A1 rfl rfl rfl (B3 0 rfl I1 rfl F5 (A0 rfl) rfl) ?_
    refine A1 rfl rfl rfl (B1 0 rfl (A0 rfl) rfl H1 rfl) ?_
    refine I2 [1] rfl rfl rfl rfl Tryz.call122 rfl (AK4 v2 ks w.Key (by rw [hinv.2.2]; exact (w5 List.Pairwise.nil).1) (by rw [hinv.2.2]; unfold cKeys wKeys; omega)) (A9 (A0 rfl) (A9 (A0 rfl) D1)) rfl ?_
    intro x50 ok50
    refine B9 rfl rfl rfl rfl rfl ?_
    refine A4 (A3 (A2 ?_))
    refine A1 rfl rfl rfl (B3 1 rfl B8 rfl M7 (A0 rfl) rfl) ?_
    refine A1 rfl rfl rfl (B1 3 rfl (A0 rfl) rfl P5 rfl) ?_
    refine A1 rfl rfl rfl (B3 0 rfl I1 rfl F5 (A0 rfl) rfl) ?_
    refine A1 rfl rfl rfl (B1 1 rfl (A0 rfl) rfl H1 rfl) ?_
    refine A1 rfl rfl rfl (E5 rfl Tryz.call261 rfl (Af9 _ _) (A9 (A0 rfl) (A9 (A0 rfl) D1))) ?_
    refine B9 rfl rfl rfl rfl rfl ?_
    refine A4 (A3 (A2 ?_))
    refine A5 rfl rfl rfl rfl rfl ?_
    refine A1 rfl rfl rfl (d6 rfl (A0 rfl) C4) ?_
    refine A5 rfl rfl rfl rfl rfl ?_
    refine B4 rfl rfl (C2 rfl rfl rfl) (fun hc => B3 1 rfl B8 rfl M7 (A0 rfl) rfl) ?_
    refine B4 rfl rfl (C2 rfl rfl rfl) (fun hc => B1 3 rfl (B0 rfl hc) rfl P5 rfl) ?_
    refine B4 rfl rfl (C2 rfl rfl rfl) (fun hc => C6 rfl (A0 rfl)) ?_
    refine B4 rfl rfl (C2 rfl rfl rfl) (fun hc => AE2 rfl D8 F0 (B0 rfl hc) (B0 rfl hc) (by have h9 := of_decide_eq_true hc; obtain ⟨⟨p9, e1, e2⟩, _⟩ := hc0 (by omega); have := (List.getElem?_eq_some_iff.1 e2).1; omega) (by have h9 := of_decide_eq_true hc; obtain ⟨⟨p9, e1, e2⟩, _⟩ := hc0 (by omega); rw [e1, Int.toNat_natCast, List.getElem?_map, e2]; rfl)) ?_
    refine B4 rfl rfl (C2 rfl rfl rfl) (fun hc => W7 rfl G5 rfl M0 (B0 rfl hc) rfl) ?_
    refine B4 rfl rfl (C2 rfl rfl rfl) (fun hc => N6 rfl (B0 rfl hc) P4 rfl) ?_
    refine B4 rfl rfl (C2 rfl rfl rfl) (fun hc => G9 rfl I5 (B0 rfl hc)) ?_
    refine B4 rfl rfl (C2 rfl rfl rfl) (fun hc => d6 rfl (B0 rfl hc) C4) ?_
    refine A1 rfl rfl rfl (I6 rfl (A0 rfl) (G4 rfl)) ?_
    refine A4 ?_
    refine C7 (A0 rfl) ?_ ?_
    ·intro h67
     have hpw : p w = false := by (rw [hp]; simp only [Bool.not_eq_false']; rw [hfu]; rw [A6] at h67; exact h67)
     have hro : room s.Cells a = false := by (unfold room; rw [show (a.all fun w => !fullC s.Cells w.Key) = false from by rw [← hp, hinv.2.1, drop_some hx, List.all_cons, hpw]; rfl]; rfl)
     refine A3 (A2 ?_)
     refine A1 rfl rfl rfl (C3 rfl F4) ?_
     refine A4 ?_
     refine C8 ?_
     exact H9 rfl (C5 rfl (by first | exact congrArg AV.bool hro.symm | exact congrArg AV.bool (by rw [hro]; simp only [A6]; rw [decide_eq_decide]; omega)))
    ·intro h67
     have hpw : p w = true := by (rw [hp]; simp only [Bool.not_eq_true']; rw [hfu]; rw [A6] at h67; exact h67)
     refine D2 (A2 ?_)
     refine A1 rfl rfl rfl (G7 rfl (A0 rfl) C4 (by first | omega | (simp only [A6, A7, B2, B7, A8, szR] at *; omega))) ?_
     refine A5 rfl rfl rfl rfl rfl ?_
     refine A4 ?_
     refine T5 r v2 ks (r + 1) (x50) (putS ks w.Key) ?_ ?_ (Le.trans (I8 [1, 0] rfl) (M1 1 (by rfl) ⟨rfl, rfl, rfl, rfl, rfl, trivial⟩))
     ·exact ⟨by omega, by rw [hinv.2.1, drop_some hx, List.all_cons, hpw]; rfl, by rw [hinv.2.2]; unfold wKeys; rw [List.take_add_one, hx, List.map_append, ← List.append_assoc]; exact (AN8 _ _ _).symm⟩
     ·omega
   ·intro h44
    have k44 := of_decide_eq_false h44; try simp only [A6] at k44
    have hge : a.length ≤ r := by omega
    have hks := hinv.2.2
    rw [List.take_of_length_le hge] at hks
    have hro : room s.Cells a = decide (ks.length ≤ 24) := by (unfold room roomKs; rw [← hp, hinv.2.1, List.drop_eq_nil_of_le hge, BA0, ← hks]; rfl)
    refine H3 ?_
    refine A3 (A2 ?_)
    refine A5 rfl rfl rfl rfl rfl ?_
    refine A1 rfl rfl rfl (U9 0 rfl E4 (A0 rfl) rfl) ?_
    refine A1 rfl rfl rfl (U5 rfl (A0 rfl) C4) ?_
    refine B9 rfl rfl rfl rfl rfl ?_
    refine A4 ?_
    refine C8 ?_
    exact H9 rfl (C5 rfl (by first | exact congrArg AV.bool hro.symm | exact congrArg AV.bool (by rw [hro]; simp only [A6]; rw [decide_eq_decide]; omega)))
theorem AP9 (s : TState) (n : Int) (hlen : s.Held.length ≤ 1048576) : FSpec Tryz.prog 105 [AV.agg s.cs, AV.int n] (AV.tup [AV.agg (heldFO s.Held n).1.cs, AV.bool (heldFO s.Held n).2]) := by
 obtain ⟨l, hl⟩ : ∃ l, s.Held = l := ⟨_, rfl⟩
 have hcs : s.cs = [AV.int s.Floor, AV.list 2 (s.Cells.map TCell.cs), AV.list 5 (l.map THeld.cs), AV.list 3 (s.Told.map TTold.cs)] := by rw [← hl]; rfl
 rw [hl] at hlen
 rw [hl, hcs]
 refine E7 Tryz.func105 rfl Tryz.ntmps105 rfl ?_
 refine A3 (A2 ?_)
 refine M3 rfl rfl rfl rfl (A0 rfl) ?_
 intro b2
 refine G0 rfl rfl rfl rfl Tryz.zeroValue45 rfl ?_
 intro b4
 refine A1 rfl rfl rfl (C3 rfl F4) ?_
 refine A4 (A3 (A3 (A2 ?_)))
 refine A1 rfl rfl rfl (B3 2 rfl B8 rfl E9 (A0 rfl) rfl) ?_
 refine A1 rfl rfl rfl (B1 1 rfl (A0 rfl) rfl I3 rfl) ?_
 refine A1 rfl rfl rfl (G9 rfl C9 (A0 rfl)) ?_
 refine A1 rfl rfl rfl (C6 rfl C4) ?_
 refine A4 (D7 ?_)
 refine J9 [(1, _), (4, _), (9, _), (10, _)] _ (fun (i : Nat) => i ≤ l.length ∧ ∀ j y, j < i → l[j]? = some y → (y.Txn == n) = false) (fun (i : Nat) => []) (fun (i : Nat) => [(11, AV.int i)]) (fun (i : Nat) => l.length - i) (0) ?_ (J8 ⟨rfl, rfl, rfl, rfl, rfl, trivial⟩) ?_
 ·exact ⟨Nat.zero_le _, fun j y hj => by omega⟩
 intro i hinv
 refine A3 (A2 ?_)
 refine A1 rfl rfl rfl (K6 rfl (A0 rfl) (A0 rfl)) ?_
 refine A4 (A3 ?_)
 refine C7 (A0 rfl) ?_ ?_
 ·intro h12
  have k12 := of_decide_eq_true h12; try simp only [A6] at k12
  have hlt : i < l.length := by omega
  obtain ⟨x, hx⟩ := get_some hlt
  refine D2 (A3 (D7 (A3 (A2 ?_))))
  refine A1 rfl rfl rfl (I7 rfl C9 D3 (A0 rfl) (A0 rfl) hx (by first | omega | (simp only [A6, A7, B2, B7, A8, szR] at *; omega))) ?_
  refine A1 rfl rfl rfl (K4 rfl (A0 rfl) I0 D3) ?_
  refine G0 rfl rfl rfl rfl Tryz.zeroValue45 rfl ?_
  intro b7
  refine D5 0 rfl rfl rfl (A0 rfl) (A0 rfl) (E2 _) rfl D3 rfl ?_
  refine A4 (A3 (A2 ?_))
  refine A1 rfl rfl rfl (B3 0 rfl F1 rfl C0 (A0 rfl) rfl) ?_
  refine A1 rfl rfl rfl (B1 0 rfl (A0 rfl) rfl D0 rfl) ?_
  refine A5 rfl rfl rfl rfl rfl ?_
  refine A1 rfl rfl rfl (M9 rfl (A0 rfl) (A0 rfl)) ?_
  refine A4 ?_
  refine C7 (A0 rfl) ?_ ?_
  ·intro h18
   have k18 := L3 h18; try simp only [A6] at k18
   have he : heldFO l n = (x, true) := by (unfold heldFO findH; rw [AC4 hx h18 hinv.2])
   rw [he]
   refine A3 (A2 ?_)
   refine A1 rfl rfl rfl (F2 0 rfl (A0 rfl) rfl I0 D3 rfl) ?_
   refine D5 1 rfl rfl rfl (A0 rfl) (A0 rfl) (E2 _) rfl D3 rfl ?_
   refine A1 rfl rfl rfl (C3 rfl F4) ?_
   refine A4 ?_
   refine C8 ?_
   exact X2 rfl (by decide) (E6 (J6 (ys := _) 1 rfl rfl I0 D3 rfl) (E6 (C5 rfl (by rfl)) K8))
  ·intro h18
   have k18 := L2 h18; try simp only [A6] at k18
   refine D2 (A2 ?_)
   refine A1 rfl rfl rfl (G7 rfl (A0 rfl) C4 (by first | omega | (simp only [A6, A7, B2, B7, A8, szR] at *; omega))) ?_
   refine A5 rfl rfl rfl rfl rfl ?_
   refine A4 ?_
   refine L4 i (i + 1) ?_ ?_ (T9 1 ⟨rfl, rfl, rfl, rfl, rfl, trivial⟩)
   ·exact ⟨by omega, fun j y hj hy => if hji : j < i then hinv.2 j y hji hy else (by have e : j = i := (by omega); subst e; rw [hx] at hy; injection hy with hy; subst hy; exact h18)⟩
   ·omega
 ·intro h12
  have k12 := of_decide_eq_false h12; try simp only [A6] at k12
  have hge : l.length ≤ i := by omega
  have he : heldFO l n = (zHeld, false) := by (unfold heldFO findH; rw [AW5 fun j y hy => hinv.2 j y (Nat.lt_of_lt_of_le (List.getElem?_eq_some_iff.1 hy).1 hge) hy])
  rw [he]
  refine H3 ?_
  refine A3 (A2 ?_)
  refine A1 rfl rfl rfl (N0 (places := #[(0, 1), (1, 1), (2, 1), (3, 1), (4, 1)]) rfl F1 Tryz.zeroValue45 (fun w => by kernel_rfl) rfl H6 rfl) ?_
  refine D5 0 rfl rfl rfl (A0 rfl) (A0 rfl) (E2 _) rfl D3 rfl ?_
  refine A1 rfl rfl rfl (C3 rfl F4) ?_
  refine A4 ?_
  refine C8 ?_
  refine AT9 0 3 1 rfl rfl ?_
  refine AT9 0 4 3 rfl rfl ?_
  exact X2 rfl (by decide) (E6 (J6 (ys := _) 0 rfl rfl I0 D3 rfl) (E6 (C5 rfl (by rfl)) K8))
theorem AQ0 (s : TState) (n : Int) (hlen : s.Told.length ≤ 1048576) : FSpec Tryz.prog 104 [AV.agg s.cs, AV.int n] (AV.tup [AV.agg (toldFO s.Told n).1.cs, AV.bool (toldFO s.Told n).2]) := by
 obtain ⟨l, hl⟩ : ∃ l, s.Told = l := ⟨_, rfl⟩
 have hcs : s.cs = [AV.int s.Floor, AV.list 2 (s.Cells.map TCell.cs), AV.list 5 (s.Held.map THeld.cs), AV.list 3 (l.map TTold.cs)] := by rw [← hl]; rfl
 rw [hl] at hlen
 rw [hl, hcs]
 refine E7 Tryz.func104 rfl Tryz.ntmps104 rfl ?_
 refine A3 (A2 ?_)
 refine M3 rfl rfl rfl rfl (A0 rfl) ?_
 intro b2
 refine G0 rfl rfl rfl rfl Tryz.zeroValue39 rfl ?_
 intro b4
 refine A1 rfl rfl rfl (C3 rfl F4) ?_
 refine A4 (A3 (A3 (A2 ?_)))
 refine A1 rfl rfl rfl (B3 3 rfl B8 rfl J3 (A0 rfl) rfl) ?_
 refine A1 rfl rfl rfl (B1 1 rfl (A0 rfl) rfl O0 rfl) ?_
 refine A1 rfl rfl rfl (G9 rfl E3 (A0 rfl)) ?_
 refine A1 rfl rfl rfl (C6 rfl C4) ?_
 refine A4 (D7 ?_)
 refine J9 [(1, _), (4, _), (9, _), (10, _)] _ (fun (i : Nat) => i ≤ l.length ∧ ∀ j y, j < i → l[j]? = some y → (y.Txn == n) = false) (fun (i : Nat) => []) (fun (i : Nat) => [(11, AV.int i)]) (fun (i : Nat) => l.length - i) (0) ?_ (J8 ⟨rfl, rfl, rfl, rfl, rfl, trivial⟩) ?_
 ·exact ⟨Nat.zero_le _, fun j y hj => by omega⟩
 intro i hinv
 refine A3 (A2 ?_)
 refine A1 rfl rfl rfl (K6 rfl (A0 rfl) (A0 rfl)) ?_
 refine A4 (A3 ?_)
 refine C7 (A0 rfl) ?_ ?_
 ·intro h12
  have k12 := of_decide_eq_true h12; try simp only [A6] at k12
  have hlt : i < l.length := by omega
  obtain ⟨x, hx⟩ := get_some hlt
  refine D2 (A3 (D7 (A3 (A2 ?_))))
  refine A1 rfl rfl rfl (I7 rfl E3 H2 (A0 rfl) (A0 rfl) hx (by first | omega | (simp only [A6, A7, B2, B7, A8, szR] at *; omega))) ?_
  refine A1 rfl rfl rfl (K4 rfl (A0 rfl) V2 H2) ?_
  refine G0 rfl rfl rfl rfl Tryz.zeroValue39 rfl ?_
  intro b7
  refine D5 0 rfl rfl rfl (A0 rfl) (A0 rfl) (E2 _) rfl H2 rfl ?_
  refine A4 (A3 (A2 ?_))
  refine A1 rfl rfl rfl (B3 0 rfl K0 rfl C0 (A0 rfl) rfl) ?_
  refine A1 rfl rfl rfl (B1 0 rfl (A0 rfl) rfl D0 rfl) ?_
  refine A5 rfl rfl rfl rfl rfl ?_
  refine A1 rfl rfl rfl (M9 rfl (A0 rfl) (A0 rfl)) ?_
  refine A4 ?_
  refine C7 (A0 rfl) ?_ ?_
  ·intro h18
   have k18 := L3 h18; try simp only [A6] at k18
   have he : toldFO l n = (x, true) := by (unfold toldFO findT; rw [AC4 hx h18 hinv.2])
   rw [he]
   refine A3 (A2 ?_)
   refine A1 rfl rfl rfl (F2 0 rfl (A0 rfl) rfl V2 H2 rfl) ?_
   refine D5 1 rfl rfl rfl (A0 rfl) (A0 rfl) (E2 _) rfl H2 rfl ?_
   refine A1 rfl rfl rfl (C3 rfl F4) ?_
   refine A4 ?_
   refine C8 ?_
   exact X2 rfl (by decide) (E6 (J6 (ys := _) 1 rfl rfl V2 H2 rfl) (E6 (C5 rfl (by rfl)) K8))
  ·intro h18
   have k18 := L2 h18; try simp only [A6] at k18
   refine D2 (A2 ?_)
   refine A1 rfl rfl rfl (G7 rfl (A0 rfl) C4 (by first | omega | (simp only [A6, A7, B2, B7, A8, szR] at *; omega))) ?_
   refine A5 rfl rfl rfl rfl rfl ?_
   refine A4 ?_
   refine L4 i (i + 1) ?_ ?_ (T9 1 ⟨rfl, rfl, rfl, rfl, rfl, trivial⟩)
   ·exact ⟨by omega, fun j y hj hy => if hji : j < i then hinv.2 j y hji hy else (by have e : j = i := (by omega); subst e; rw [hx] at hy; injection hy with hy; subst hy; exact h18)⟩
   ·omega
 ·intro h12
  have k12 := of_decide_eq_false h12; try simp only [A6] at k12
  have hge : l.length ≤ i := by omega
  have he : toldFO l n = (zTold, false) := by (unfold toldFO findT; rw [AW5 fun j y hy => hinv.2 j y (Nat.lt_of_lt_of_le (List.getElem?_eq_some_iff.1 hy).1 hge) hy])
  rw [he]
  refine H3 ?_
  refine A3 (A2 ?_)
  refine A1 rfl rfl rfl (N0 (places := #[(0, 1), (1, 1), (2, 1)]) rfl K0 Tryz.zeroValue39 (fun w => by kernel_rfl) rfl H6 rfl) ?_
  refine D5 0 rfl rfl rfl (A0 rfl) (A0 rfl) (E2 _) rfl H2 rfl ?_
  refine A1 rfl rfl rfl (C3 rfl F4) ?_
  refine A4 ?_
  refine C8 ?_
  exact X2 rfl (by decide) (E6 (J6 (ys := _) 0 rfl rfl V2 H2 rfl) (E6 (C5 rfl (by rfl)) K8))
theorem Ai3 (s : TState) (ho : CellsOk s.Cells) (hs : s.size ≤ 400000) : FSpec Tryz.prog 202 [AV.agg s.cs] (AV.bool (areHeld s)) := by
 obtain ⟨hs1, hs2, hs3, hs4, hs5⟩ := R9 hs
 refine E7 Tryz.func202 rfl Tryz.ntmps202 rfl ?_
 refine A3 (A2 ?_)
 refine M3 rfl rfl rfl rfl (A0 rfl) ?_
 intro b1
 refine A1 rfl rfl rfl (C3 rfl F4) ?_
 refine A4 (A3 (A3 (A2 ?_)))
 refine A1 rfl rfl rfl (B3 2 rfl B8 rfl E9 (A0 rfl) rfl) ?_
 refine A1 rfl rfl rfl (B1 0 rfl (A0 rfl) rfl I3 rfl) ?_
 refine A1 rfl rfl rfl (G9 rfl C9 (A0 rfl)) ?_
 refine A1 rfl rfl rfl (C6 rfl C4) ?_
 refine A4 (D7 ?_)
 refine J9 [(1, _), (10, _), (11, _)] _ (fun (i : Nat) => i ≤ s.Held.length ∧ ∀ j, j < i → heldAt s j = true) (fun (i : Nat) => []) (fun (i : Nat) => [(12, AV.int i)]) (fun (i : Nat) => s.Held.length - i) (0) ?_ (J8 ⟨rfl, rfl, rfl, rfl, trivial⟩) ?_
 ·exact ⟨Nat.zero_le _, fun j hj => by omega⟩
 intro i hinv
 refine A3 (A2 ?_)
 refine A1 rfl rfl rfl (K6 rfl (A0 rfl) (A0 rfl)) ?_
 refine A4 (A3 ?_)
 refine C7 (A0 rfl) ?_ ?_
 ·intro h13
  have k13 := of_decide_eq_true h13; try simp only [A6] at k13
  have hlt : i < s.Held.length := by omega
  obtain ⟨h, hx⟩ := get_some hlt
  obtain ⟨y, hy⟩ := get_some (show i - 1 < s.Held.length by omega)
  obtain ⟨g1, g2, g3, g4, g5⟩ := U2 hs2 hx
  have hinv0 := hinv
  refine D2 (A3 (D7 (A3 (A2 ?_))))
  refine A5 rfl rfl rfl rfl rfl ?_
  refine A1 rfl rfl rfl (I7 rfl C9 D3 (A0 rfl) (A0 rfl) hx (by first | omega | (simp only [A6, A7, B2, B7, A8, szR] at *; omega))) ?_
  refine A1 rfl rfl rfl (K4 rfl (A0 rfl) I0 D3) ?_
  refine G0 rfl rfl rfl rfl Tryz.zeroValue45 rfl ?_
  intro b4
  refine B9 rfl rfl rfl rfl rfl ?_
  refine D5 0 rfl rfl rfl (A0 rfl) (A0 rfl) (E2 _) rfl D3 rfl ?_
  refine A4 (A3 (A3 ?_))
  refine K3 (by kernel_rfl) (by kernel_rfl) rfl ?_
  refine B5 rfl rfl (F2 0 rfl (A0 rfl) rfl I0 D3 rfl) ?_
  refine B5 rfl rfl (E5 rfl Tryz.call89 rfl (AA8 _) (A9 (A0 rfl) D1)) ?_
  refine B5 rfl rfl (E5 rfl Tryz.call85 rfl (AT6 _ (by first | assumption | omega)) (A9 (A0 rfl) D1)) ?_
  refine B5 rfl rfl (M2 rfl (A0 rfl)) ?_
  refine B5 rfl rfl (C6 rfl (A0 rfl)) ?_
  refine E1 rfl (D4 rfl rfl rfl) (fun hc => B3 1 rfl F1 rfl C0 (A0 rfl) rfl) ?_
  refine E1 rfl (D4 rfl rfl rfl) (fun hc => B1 0 rfl (B0 rfl hc) rfl D0 rfl) ?_
  refine E1 rfl (D4 rfl rfl rfl) (fun hc => B3 0 rfl B8 rfl C0 (A0 rfl) rfl) ?_
  refine E1 rfl (D4 rfl rfl rfl) (fun hc => B1 1 rfl (B0 rfl hc) rfl D0 rfl) ?_
  refine E1 rfl (D4 rfl rfl rfl) (fun hc => P8 rfl (B0 rfl hc) (B0 rfl hc)) ?_
  refine B5 rfl rfl (Q4 rfl (A0 rfl) (G4 rfl)) ?_
  refine B5 rfl rfl (C6 rfl (A0 rfl)) ?_
  refine E1 rfl (D4 rfl rfl rfl) (fun hc => C6 rfl (A0 rfl)) ?_
  refine E1 rfl (D4 rfl rfl rfl) (fun hc => P8 rfl (B0 rfl hc) C4) ?_
  refine E1 rfl (D4 rfl rfl rfl) (fun hc => C6 rfl (B0 rfl hc)) ?_
  refine E1 rfl (E8 rfl rfl rfl) (fun hc => B3 2 rfl B8 rfl E9 (A0 rfl) rfl) ?_
  refine E1 rfl (E8 rfl rfl rfl) (fun hc => B1 1 rfl (B0 rfl hc) rfl I3 rfl) ?_
  refine E1 rfl (E8 rfl rfl rfl) (fun hc => C6 rfl (A0 rfl)) ?_
  refine E1 rfl (E8 rfl rfl rfl) (fun hc => Q0 rfl (B0 rfl hc) C4 (by first | omega | ((try simp only [A6, A7, B2, B7, A8, szR] at *); omega) | (have hc2 := hc; simp only [Bool.and_eq_true, Bool.or_eq_true, Bool.or_eq_false_iff, Bool.and_eq_false_iff, Bool.not_eq_true', Bool.not_eq_false', decide_eq_true_eq, decide_eq_false_iff_not, beq_iff_eq, bne_iff_ne, A6, A7] at hc2; omega))) ?_
  refine E1 rfl (E8 rfl rfl rfl) (fun hc => I7 rfl C9 D3 (B0 rfl hc) (B0 rfl hc) hy (by first | omega | ((try simp only [A6, A7, B2, B7, A8, szR] at *); omega) | (have hc2 := hc; simp only [Bool.and_eq_true, Bool.or_eq_true, Bool.or_eq_false_iff, Bool.and_eq_false_iff, Bool.not_eq_true', Bool.not_eq_false', decide_eq_true_eq, decide_eq_false_iff_not, beq_iff_eq, bne_iff_ne, A6, A7] at hc2; omega))) ?_
  refine E1 rfl (E8 rfl rfl rfl) (fun hc => W7 rfl F1 rfl C0 (B0 rfl hc) rfl) ?_
  refine E1 rfl (E8 rfl rfl rfl) (fun hc => N6 rfl (B0 rfl hc) D0 rfl) ?_
  refine E1 rfl (E8 rfl rfl rfl) (fun hc => B3 0 rfl F1 rfl C0 (A0 rfl) rfl) ?_
  refine E1 rfl (E8 rfl rfl rfl) (fun hc => B1 0 rfl (B0 rfl hc) rfl D0 rfl) ?_
  refine E1 rfl (E8 rfl rfl rfl) (fun hc => d6 rfl (B0 rfl hc) (B0 rfl hc)) ?_
  refine E1 rfl (D4 rfl rfl rfl) (fun hc => I6 rfl (B0 rfl hc) (S0 rfl hc)) ?_
  refine B5 rfl rfl (Q4 rfl (A0 rfl) (G4 rfl)) ?_
  refine O1 ?_
  refine C7 (A0 rfl) ?_ ?_
  ·intro h43
   have hfin : areHeld s = false := by (unfold areHeld; rw [Z4 hlt (by rw [AC3 hx hy, h43]; rfl)]; rfl)
   refine A3 (A2 ?_)
   refine A1 rfl rfl rfl (C3 rfl F4) ?_
   refine A4 ?_
   refine C8 ?_
   exact H9 rfl (C5 rfl (by first | exact congrArg AV.bool hfin.symm | exact congrArg AV.bool (by unfold areHeld; rw [hall, Bool.true_and, List.nil_append, A6]; congr 1; rw [decide_eq_decide]; omega)))
  ·intro h43
   refine D2 (A3 (A3 (A2 ?_)))
   refine A1 rfl rfl rfl (B3 2 rfl B8 rfl E9 (A0 rfl) rfl) ?_
   refine A1 rfl rfl rfl (B1 1 rfl (A0 rfl) rfl I3 rfl) ?_
   refine A5 rfl rfl rfl rfl rfl ?_
   refine A1 rfl rfl rfl (y8 rfl C9 D3 (A0 rfl) (A0 rfl) (by first | omega | (simp only [A6, A7, B2, B7, A8, szR] at *; omega)) (by first | omega | (simp only [A6, A7, B2, B7, A8, szR] at *; omega))) ?_
   refine A1 rfl rfl rfl (G9 rfl C9 (A0 rfl)) ?_
   refine A1 rfl rfl rfl (C6 rfl C4) ?_
   refine A4 (D7 ?_)
   refine J9 [(1, _), (3, _), (4, _), (10, _), (11, _), (12, _), (13, _), (14, _), (15, _), (16, _), (17, _), (18, _), (19, _), (20, _), (21, _), (27, _), (28, _), (43, _), (44, _), (45, _), (46, _), (47, _), (48, _)] _ (fun (q : Nat) => q ≤ (s.Held.take i).length ∧ ((s.Held.take i).all fun g => apart g h.Reads h.Writes) = (((s.Held.take i).drop q).all fun g => apart g h.Reads h.Writes)) (fun (q : Nat) => []) (fun (q : Nat) => [(49, AV.int q)]) (fun (q : Nat) => (s.Held.take i).length - q) (0) ?_ (J8 ⟨rfl, rfl, rfl, rfl, rfl, rfl, rfl, rfl, rfl, rfl, rfl, rfl, rfl, rfl, rfl, rfl, rfl, rfl, rfl, rfl, rfl, rfl, rfl, rfl, trivial⟩) ?_
   ·exact ⟨Nat.zero_le _, rfl⟩
   intro q hinv
   refine A3 (A2 ?_)
   refine A1 rfl rfl rfl (K6 rfl (A0 rfl) (A0 rfl)) ?_
   refine A4 (A3 ?_)
   refine C7 (A0 rfl) ?_ ?_
   ·intro h50
    have k50 := of_decide_eq_true h50; try simp only [A6] at k50
    have hlt2 : q < (s.Held.take i).length := by (simp only [A7, A6, Int.toNat_natCast] at k50 ⊢; omega)
    obtain ⟨k, hx2⟩ := get_some hlt2
    refine D2 (A3 (D7 (A3 (A2 ?_))))
    refine A1 rfl rfl rfl (I7 rfl C9 D3 (A0 rfl) (A0 rfl) hx2 (by first | omega | (simp only [A6, A7, B2, B7, A8, szR] at *; omega))) ?_
    refine A1 rfl rfl rfl (K4 rfl (A0 rfl) I0 D3) ?_
    refine G0 rfl rfl rfl rfl Tryz.zeroValue45 rfl ?_
    intro b6
    refine D5 0 rfl rfl rfl (A0 rfl) (A0 rfl) (E2 _) rfl D3 rfl ?_
    refine A4 (A3 (A2 ?_))
    refine A1 rfl rfl rfl (F2 0 rfl (A0 rfl) rfl I0 D3 rfl) ?_
    refine A1 rfl rfl rfl (B3 3 rfl F1 rfl L7 (A0 rfl) rfl) ?_
    refine A1 rfl rfl rfl (B1 1 rfl (A0 rfl) rfl N9 rfl) ?_
    refine A1 rfl rfl rfl (B3 4 rfl F1 rfl K2 (A0 rfl) rfl) ?_
    refine A1 rfl rfl rfl (B1 1 rfl (A0 rfl) rfl L8 rfl) ?_
    refine A1 rfl rfl rfl (E5 rfl Tryz.call222 rfl (apart_spec _ _ _) (A9 (A0 rfl) (A9 (A0 rfl) (A9 (A0 rfl) D1)))) ?_
    refine A1 rfl rfl rfl (M2 rfl (A0 rfl)) ?_
    refine A4 ?_
    refine C7 (A0 rfl) ?_ ?_
    ·intro h59
     have hfin : areHeld s = false := by (unfold areHeld; rw [Z4 hlt (by rw [AC3 hx hy, hinv.2, drop_some hx2, List.all_cons, show apart k h.Reads h.Writes = false by simpa using h59]; simp)]; rfl)
     refine A3 (A2 ?_)
     refine A1 rfl rfl rfl (C3 rfl F4) ?_
     refine A4 ?_
     refine C8 ?_
     exact H9 rfl (C5 rfl (by first | exact congrArg AV.bool hfin.symm | exact congrArg AV.bool (by unfold areHeld; rw [hall, Bool.true_and, List.nil_append, A6]; congr 1; rw [decide_eq_decide]; omega)))
    ·intro h59
     refine D2 (A2 ?_)
     refine A1 rfl rfl rfl (G7 rfl (A0 rfl) C4 (by first | omega | (simp only [A6, A7, B2, B7, A8, szR] at *; omega))) ?_
     refine A5 rfl rfl rfl rfl rfl ?_
     refine A4 ?_
     refine L4 q (q + 1) ?_ ?_ (T9 1 ⟨rfl, rfl, rfl, rfl, rfl, rfl, rfl, rfl, rfl, rfl, rfl, rfl, rfl, rfl, rfl, rfl, rfl, rfl, rfl, rfl, rfl, rfl, rfl, rfl, trivial⟩)
     ·exact ⟨by omega, by rw [hinv.2, drop_some hx2, List.all_cons, show apart k h.Reads h.Writes = true by simpa using h59]; rfl⟩
     ·omega
   ·intro h50
    have k50 := of_decide_eq_false h50; try simp only [A6] at k50
    have hge2 : (s.Held.take i).length ≤ q := by (simp only [A7, A6, Int.toNat_natCast] at k50 ⊢; omega)
    have hap : ((s.Held.take i).all fun g => apart g h.Reads h.Writes) = true := by (rw [hinv.2, List.drop_eq_nil_of_le hge2]; rfl)
    refine H3 ?_
    refine A3 (A2 ?_)
    refine A1 rfl rfl rfl (B3 4 rfl F1 rfl K2 (A0 rfl) rfl) ?_
    refine A1 rfl rfl rfl (B1 0 rfl (A0 rfl) rfl L8 rfl) ?_
    refine A1 rfl rfl rfl (G9 rfl F3 (A0 rfl)) ?_
    refine A1 rfl rfl rfl (C6 rfl C4) ?_
    refine A4 (D7 ?_)
    refine J9 [(1, _), (3, _), (4, _), (10, _), (11, _), (12, _), (13, _), (14, _), (15, _), (16, _), (17, _), (18, _), (19, _), (20, _), (21, _), (27, _), (28, _), (43, _), (44, _), (45, _), (46, _), (47, _), (48, _), (49, _), (50, _), (61, _), (62, _), (63, _)] _ (fun (r : Nat) => r ≤ h.Writes.length ∧ (h.Writes.all fun w => decide (lastTime s.Cells w.Key < h.Time)) = ((h.Writes.drop r).all fun w => decide (lastTime s.Cells w.Key < h.Time))) (fun (r : Nat) => []) (fun (r : Nat) => [(64, AV.int r)]) (fun (r : Nat) => h.Writes.length - r) (0) ?_ (J8 ⟨rfl, rfl, rfl, rfl, rfl, rfl, rfl, rfl, rfl, rfl, rfl, rfl, rfl, rfl, rfl, rfl, rfl, rfl, rfl, rfl, rfl, rfl, rfl, rfl, rfl, rfl, rfl, rfl, rfl, trivial⟩) ?_
    ·exact ⟨Nat.zero_le _, rfl⟩
    intro r hinv
    refine A3 (A2 ?_)
    refine A1 rfl rfl rfl (K6 rfl (A0 rfl) (A0 rfl)) ?_
    refine A4 (A3 ?_)
    refine C7 (A0 rfl) ?_ ?_
    ·intro h65
     have k65 := of_decide_eq_true h65; try simp only [A6] at k65
     have hlt3 : r < h.Writes.length := by omega
     obtain ⟨w, hw⟩ := get_some hlt3
     refine D2 (A3 (D7 (A3 (A2 ?_))))
     refine A1 rfl rfl rfl (I7 rfl F3 H7 (A0 rfl) (A0 rfl) hw (by first | omega | (simp only [A6, A7, B2, B7, A8, szR] at *; omega))) ?_
     refine A1 rfl rfl rfl (K4 rfl (A0 rfl) S5 H7) ?_
     refine G0 rfl rfl rfl rfl Tryz.zeroValue77 rfl ?_
     intro b8
     refine D5 0 rfl rfl rfl (A0 rfl) (A0 rfl) (E2 _) rfl H7 rfl ?_
     refine A4 (A3 ?_)
     refine K3 (by kernel_rfl) (by kernel_rfl) rfl ?_
     refine B5 rfl rfl (B3 1 rfl B8 rfl M7 (A0 rfl) rfl) ?_
     refine B5 rfl rfl (B1 2 rfl (A0 rfl) rfl P5 rfl) ?_
     refine B5 rfl rfl (B3 0 rfl I1 rfl F5 (A0 rfl) rfl) ?_
     refine B5 rfl rfl (B1 0 rfl (A0 rfl) rfl H1 rfl) ?_
     refine B5 rfl rfl (E5 rfl Tryz.call203 rfl (AG2 _ _ (by first | assumption | exact V9 (by rw [X9]; assumption)) (by first | assumption | omega)) (A9 (A0 rfl) (A9 (A0 rfl) D1))) ?_
     refine B5 rfl rfl (B3 1 rfl F1 rfl C0 (A0 rfl) rfl) ?_
     refine B5 rfl rfl (B1 1 rfl (A0 rfl) rfl D0 rfl) ?_
     refine B5 rfl rfl (d6 rfl (A0 rfl) (A0 rfl)) ?_
     refine O1 ?_
     refine C7 (A0 rfl) ?_ ?_
     ·intro h75
      have k75 := of_decide_eq_true h75; try simp only [A6] at k75
      have hfin : areHeld s = false := by (unfold areHeld; rw [Z4 hlt (by rw [AC3 hx hy, hinv.2, drop_some hw, List.all_cons, decide_eq_false (show ¬ lastTime s.Cells w.Key < h.Time by omega)]; simp)]; rfl)
      refine A3 (A2 ?_)
      refine A1 rfl rfl rfl (C3 rfl F4) ?_
      refine A4 ?_
      refine C8 ?_
      exact H9 rfl (C5 rfl (by first | exact congrArg AV.bool hfin.symm | exact congrArg AV.bool (by unfold areHeld; rw [hall, Bool.true_and, List.nil_append, A6]; congr 1; rw [decide_eq_decide]; omega)))
     ·intro h75
      have k75 := of_decide_eq_false h75; try simp only [A6] at k75
      refine D2 (A2 ?_)
      refine A1 rfl rfl rfl (G7 rfl (A0 rfl) C4 (by first | omega | (simp only [A6, A7, B2, B7, A8, szR] at *; omega))) ?_
      refine A5 rfl rfl rfl rfl rfl ?_
      refine A4 ?_
      refine L4 r (r + 1) ?_ ?_ (T9 1 ⟨rfl, rfl, rfl, rfl, rfl, rfl, rfl, rfl, rfl, rfl, rfl, rfl, rfl, rfl, rfl, rfl, rfl, rfl, rfl, rfl, rfl, rfl, rfl, rfl, rfl, rfl, rfl, rfl, rfl, trivial⟩)
      ·exact ⟨by omega, by rw [hinv.2, drop_some hw, List.all_cons, decide_eq_true (show lastTime s.Cells w.Key < h.Time by omega)]; rfl⟩
      ·omega
    ·intro h65
     have k65 := of_decide_eq_false h65; try simp only [A6] at k65
     have hge3 : h.Writes.length ≤ r := by omega
     have hlw : (h.Writes.all fun w => decide (lastTime s.Cells w.Key < h.Time)) = true := by (rw [hinv.2, List.drop_eq_nil_of_le hge3]; rfl)
     refine H3 ?_
     refine A2 ?_
     refine A1 rfl rfl rfl (G7 rfl (A0 rfl) C4 (by first | omega | (simp only [A6, A7, B2, B7, A8, szR] at *; omega))) ?_
     refine A5 rfl rfl rfl rfl rfl ?_
     refine A4 ?_
     refine L4 i (i + 1) ?_ ?_ (T9 1 ⟨rfl, rfl, rfl, rfl, trivial⟩)
     ·exact ⟨by omega, fun j hj => if hji : j < i then hinv0.2 j hji else (by have e : j = i := (by omega); subst e; rw [AC3 hx hy, h43, hap, hlw]; rfl)⟩
     ·omega
 ·intro h13
  have k13 := of_decide_eq_false h13; try simp only [A6] at k13
  have hge : s.Held.length ≤ i := by omega
  have hall : allB s.Held.length (heldAt s) = true := p7.2 fun j hj => hinv.2 j (by omega)
  refine H3 ?_
  refine A3 (A2 ?_)
  refine A1 rfl rfl rfl (B3 2 rfl B8 rfl E9 (A0 rfl) rfl) ?_
  refine A1 rfl rfl rfl (B1 0 rfl (A0 rfl) rfl I3 rfl) ?_
  refine A1 rfl rfl rfl (G9 rfl C9 (A0 rfl)) ?_
  refine A1 rfl rfl rfl (U5 rfl (A0 rfl) C4) ?_
  refine A5 rfl rfl rfl rfl rfl ?_
  refine B4 rfl rfl (C2 rfl rfl rfl) (fun hc => F2 0 rfl (A0 rfl) rfl D6 C1 rfl) ?_
  refine B4 rfl rfl (C2 rfl rfl rfl) (fun hc => E5 rfl Tryz.call223 rfl (Aa1 s [] hs (by decide)) (A9 (B0 rfl hc) (A9 n3 D1))) ?_
  refine A1 rfl rfl rfl (I6 rfl (A0 rfl) (G4 rfl)) ?_
  refine B9 rfl rfl rfl rfl rfl ?_
  refine A4 ?_
  refine C8 ?_
  exact H9 rfl (C5 rfl (by first | exact congrArg AV.bool hfin.symm | exact congrArg AV.bool (by unfold areHeld; rw [hall, Bool.true_and, List.nil_append, A6]; congr 1; rw [decide_eq_decide]; omega)))
theorem AF0 (s : TState) (hs : s.size ≤ 400000) : FSpec Tryz.prog 102 [AV.agg s.cs] (AV.bool (goodState s)) := by
 obtain ⟨hs1, hs2, hs3, hs4, hs5⟩ := R9 hs
 refine E7 Tryz.func102 rfl Tryz.ntmps102 rfl ?_
 refine A3 (A2 ?_)
 refine M3 rfl rfl rfl rfl (A0 rfl) ?_
 intro b1
 refine A1 rfl rfl rfl (C3 rfl F4) ?_
 refine A4 (A3 (A3 (A2 ?_)))
 refine A1 rfl rfl rfl (B3 0 rfl B8 rfl C0 (A0 rfl) rfl) ?_
 refine A1 rfl rfl rfl (B1 0 rfl (A0 rfl) rfl D0 rfl) ?_
 refine A1 rfl rfl rfl (E5 rfl Tryz.call120 rfl (AT3 _) (A9 (A0 rfl) D1)) ?_
 refine A1 rfl rfl rfl (M2 rfl (A0 rfl)) ?_
 refine A5 rfl rfl rfl rfl rfl ?_
 refine B4 rfl rfl (D4 rfl rfl rfl) (fun hc => B3 1 rfl B8 rfl M7 (A0 rfl) rfl) ?_
 refine B4 rfl rfl (D4 rfl rfl rfl) (fun hc => B1 0 rfl (B0 rfl hc) rfl P5 rfl) ?_
 refine B4 rfl rfl (D4 rfl rfl rfl) (fun hc => E5 rfl Tryz.call201 rfl (AT4 _ (by first | assumption | omega)) (A9 (B0 rfl hc) D1)) ?_
 refine B4 rfl rfl (D4 rfl rfl rfl) (fun hc => M2 rfl (B0 rfl hc)) ?_
 refine A1 rfl rfl rfl (Q4 rfl (A0 rfl) (G4 rfl)) ?_
 refine A5 rfl rfl rfl rfl rfl ?_
 refine B4 rfl rfl (D4 rfl rfl rfl) (fun hc => F2 0 rfl (A0 rfl) rfl D6 C1 rfl) ?_
 refine B4 rfl rfl (D4 rfl rfl rfl) (fun hc => E5 rfl Tryz.call202 rfl (Ai3 s (V9 (by have h9 := hc; simp at h9; rw [X9]; exact h9.2)) hs) (A9 (B0 rfl hc) D1)) ?_
 refine B4 rfl rfl (D4 rfl rfl rfl) (fun hc => M2 rfl (B0 rfl hc)) ?_
 refine A1 rfl rfl rfl (Q4 rfl (A0 rfl) (G4 rfl)) ?_
 refine A5 rfl rfl rfl rfl rfl ?_
 refine B4 rfl rfl (D4 rfl rfl rfl) (fun hc => B3 3 rfl B8 rfl J3 (A0 rfl) rfl) ?_
 refine B4 rfl rfl (D4 rfl rfl rfl) (fun hc => B1 0 rfl (B0 rfl hc) rfl O0 rfl) ?_
 refine B4 rfl rfl (D4 rfl rfl rfl) (fun hc => G9 rfl E3 (B0 rfl hc)) ?_
 refine B4 rfl rfl (D4 rfl rfl rfl) (fun hc => P8 rfl (B0 rfl hc) C4) ?_
 refine A1 rfl rfl rfl (Q4 rfl (A0 rfl) (G4 rfl)) ?_
 refine A4 ?_
 refine C7 (A0 rfl) ?_ ?_
 ·intro h29
  have hfin : goodState s = false := by (unfold goodState; simp only [Bool.or_eq_true, Bool.not_eq_true', decide_eq_true_eq, A6] at h29; rcases h29 with ((h | h) | h) | h; (rw [h]; rfl); (rw [X9, h]; simp); (rw [h]; simp); (rw [decide_eq_false (show ¬ s.Told.length ≤ 60 by omega)]; simp))
  refine A3 (A2 ?_)
  refine A1 rfl rfl rfl (C3 rfl F4) ?_
  refine A4 ?_
  refine C8 ?_
  exact H9 rfl (C5 rfl (by exact congrArg AV.bool hfin.symm))
 ·intro h29
  simp only [Bool.or_eq_false_iff, Bool.not_eq_false', decide_eq_false_iff_not, A6] at h29
  obtain ⟨⟨⟨q1, q2⟩, q3⟩, q4⟩ := h29
  have hco := V9 (by rw [X9]; exact q2)
  have hgs : goodState s = ((s.Cells.all fun c => decide (lastTime s.Cells c.Key ≤ s.Floor)) && allB s.Told.length (toldAt s)) := by (unfold goodState; rw [q1, X9, q2, q3, decide_eq_true (show s.Told.length ≤ 60 by omega)]; simp)
  refine D2 (A3 (A3 (A2 ?_)))
  refine A1 rfl rfl rfl (B3 1 rfl B8 rfl M7 (A0 rfl) rfl) ?_
  refine A1 rfl rfl rfl (B1 0 rfl (A0 rfl) rfl P5 rfl) ?_
  refine A1 rfl rfl rfl (G9 rfl D8 (A0 rfl)) ?_
  refine A1 rfl rfl rfl (C6 rfl C4) ?_
  refine A4 (D7 ?_)
  refine J9 [(1, _), (31, _), (32, _)] _ (fun (i : Nat) => i ≤ s.Cells.length ∧ (s.Cells.all fun c => decide (lastTime s.Cells c.Key ≤ s.Floor)) = ((s.Cells.drop i).all fun c => decide (lastTime s.Cells c.Key ≤ s.Floor))) (fun (i : Nat) => []) (fun (i : Nat) => [(33, AV.int i)]) (fun (i : Nat) => s.Cells.length - i) (0) ?_ (J8 ⟨rfl, rfl, rfl, rfl, trivial⟩) ?_
  ·exact ⟨Nat.zero_le _, rfl⟩
  intro i hinv
  refine A3 (A2 ?_)
  refine A1 rfl rfl rfl (K6 rfl (A0 rfl) (A0 rfl)) ?_
  refine A4 (A3 ?_)
  refine C7 (A0 rfl) ?_ ?_
  ·intro h34
   have k34 := of_decide_eq_true h34; try simp only [A6] at k34
   have hlt : i < s.Cells.length := by omega
   obtain ⟨c, hx⟩ := get_some hlt
   refine D2 (A3 (D7 (A3 (A2 ?_))))
   refine A1 rfl rfl rfl (I7 rfl D8 F0 (A0 rfl) (A0 rfl) hx (by first | omega | (simp only [A6, A7, B2, B7, A8, szR] at *; omega))) ?_
   refine A1 rfl rfl rfl (K4 rfl (A0 rfl) S9 F0) ?_
   refine G0 rfl rfl rfl rfl Tryz.zeroValue142 rfl ?_
   intro b4
   refine D5 0 rfl rfl rfl (A0 rfl) (A0 rfl) (E2 _) rfl F0 rfl ?_
   refine A4 (A3 ?_)
   refine K3 (by kernel_rfl) (by kernel_rfl) rfl ?_
   refine B5 rfl rfl (B3 1 rfl B8 rfl M7 (A0 rfl) rfl) ?_
   refine B5 rfl rfl (B1 1 rfl (A0 rfl) rfl P5 rfl) ?_
   refine B5 rfl rfl (B3 0 rfl G5 rfl F5 (A0 rfl) rfl) ?_
   refine B5 rfl rfl (B1 0 rfl (A0 rfl) rfl H1 rfl) ?_
   refine B5 rfl rfl (E5 rfl Tryz.call203 rfl (AG2 _ _ (by first | assumption | exact V9 (by rw [X9]; assumption)) (by first | assumption | omega)) (A9 (A0 rfl) (A9 (A0 rfl) D1))) ?_
   refine B5 rfl rfl (B3 0 rfl B8 rfl C0 (A0 rfl) rfl) ?_
   refine B5 rfl rfl (B1 1 rfl (A0 rfl) rfl D0 rfl) ?_
   refine B5 rfl rfl (P8 rfl (A0 rfl) (A0 rfl)) ?_
   refine O1 ?_
   refine C7 (A0 rfl) ?_ ?_
   ·intro h44
    have k44 := of_decide_eq_true h44; try simp only [A6] at k44
    have hfin : goodState s = false := by (rw [hgs, hinv.2, drop_some hx, List.all_cons, decide_eq_false (show ¬ lastTime s.Cells c.Key ≤ s.Floor by omega)]; rfl)
    refine A3 (A2 ?_)
    refine A1 rfl rfl rfl (C3 rfl F4) ?_
    refine A4 ?_
    refine C8 ?_
    exact H9 rfl (C5 rfl (by exact congrArg AV.bool hfin.symm))
   ·intro h44
    have k44 := of_decide_eq_false h44; try simp only [A6] at k44
    refine D2 (A2 ?_)
    refine A1 rfl rfl rfl (G7 rfl (A0 rfl) C4 (by first | omega | (simp only [A6, A7, B2, B7, A8, szR] at *; omega))) ?_
    refine A5 rfl rfl rfl rfl rfl ?_
    refine A4 ?_
    refine L4 i (i + 1) ?_ ?_ (T9 1 ⟨rfl, rfl, rfl, rfl, trivial⟩)
    ·exact ⟨by omega, by rw [hinv.2, drop_some hx, List.all_cons, decide_eq_true (show lastTime s.Cells c.Key ≤ s.Floor by omega)]; rfl⟩
    ·omega
  ·intro h34
   have k34 := of_decide_eq_false h34; try simp only [A6] at k34
   have hge : s.Cells.length ≤ i := by omega
   have hgs2 : goodState s = allB s.Told.length (toldAt s) := by (rw [hgs, hinv.2, List.drop_eq_nil_of_le hge]; rfl)
   refine H3 ?_
   refine A3 (A3 (A2 ?_))
   refine A1 rfl rfl rfl (B3 3 rfl B8 rfl J3 (A0 rfl) rfl) ?_
   refine A1 rfl rfl rfl (B1 0 rfl (A0 rfl) rfl O0 rfl) ?_
   refine A1 rfl rfl rfl (G9 rfl E3 (A0 rfl)) ?_
   refine A1 rfl rfl rfl (C6 rfl C4) ?_
   refine A4 (D7 ?_)
   refine J9 [(1, _), (47, _), (48, _)] _ (fun (q : Nat) => q ≤ s.Told.length ∧ ∀ j, j < q → toldAt s j = true) (fun (q : Nat) => []) (fun (q : Nat) => [(49, AV.int q)]) (fun (q : Nat) => s.Told.length - q) (0) ?_ (J8 ⟨rfl, rfl, rfl, rfl, trivial⟩) ?_
   ·exact ⟨Nat.zero_le _, fun j hj => by omega⟩
   intro q hinv
   refine A3 (A2 ?_)
   refine A1 rfl rfl rfl (K6 rfl (A0 rfl) (A0 rfl)) ?_
   refine A4 (A3 ?_)
   refine C7 (A0 rfl) ?_ ?_
   ·intro h50
    have k50 := of_decide_eq_true h50; try simp only [A6] at k50
    have hlt : q < s.Told.length := by omega
    obtain ⟨t, hx⟩ := get_some hlt
    obtain ⟨y, hy⟩ := get_some (show q - 1 < s.Told.length by omega)
    refine D2 (A3 (D7 (A3 (A2 ?_))))
    refine A5 rfl rfl rfl rfl rfl ?_
    refine A1 rfl rfl rfl (I7 rfl E3 H2 (A0 rfl) (A0 rfl) hx (by first | omega | (simp only [A6, A7, B2, B7, A8, szR] at *; omega))) ?_
    refine A1 rfl rfl rfl (K4 rfl (A0 rfl) V2 H2) ?_
    refine G0 rfl rfl rfl rfl Tryz.zeroValue39 rfl ?_
    intro b6
    refine B9 rfl rfl rfl rfl rfl ?_
    refine D5 0 rfl rfl rfl (A0 rfl) (A0 rfl) (E2 _) rfl H2 rfl ?_
    refine A4 (A3 (A3 ?_))
    refine K3 (by kernel_rfl) (by kernel_rfl) rfl ?_
    refine B5 rfl rfl (B3 0 rfl K0 rfl C0 (A0 rfl) rfl) ?_
    refine B5 rfl rfl (B1 0 rfl (A0 rfl) rfl D0 rfl) ?_
    refine B5 rfl rfl (E5 rfl Tryz.call137 rfl (a8 _ _ _) (A9 (A0 rfl) (A9 C4 (A9 C4 D1)))) ?_
    refine B5 rfl rfl (M2 rfl (A0 rfl)) ?_
    refine B5 rfl rfl (C6 rfl (A0 rfl)) ?_
    refine E1 rfl (D4 rfl rfl rfl) (fun hc => C6 rfl (A0 rfl)) ?_
    refine E1 rfl (D4 rfl rfl rfl) (fun hc => P8 rfl (B0 rfl hc) C4) ?_
    refine E1 rfl (D4 rfl rfl rfl) (fun hc => C6 rfl (B0 rfl hc)) ?_
    refine E1 rfl (E8 rfl rfl rfl) (fun hc => B3 3 rfl B8 rfl J3 (A0 rfl) rfl) ?_
    refine E1 rfl (E8 rfl rfl rfl) (fun hc => B1 1 rfl (B0 rfl hc) rfl O0 rfl) ?_
    refine E1 rfl (E8 rfl rfl rfl) (fun hc => C6 rfl (A0 rfl)) ?_
    refine E1 rfl (E8 rfl rfl rfl) (fun hc => Q0 rfl (B0 rfl hc) C4 (by first | omega | ((try simp only [A6, A7, B2, B7, A8, szR] at *); omega) | (have hc2 := hc; simp only [Bool.and_eq_true, Bool.or_eq_true, Bool.or_eq_false_iff, Bool.and_eq_false_iff, Bool.not_eq_true', Bool.not_eq_false', decide_eq_true_eq, decide_eq_false_iff_not, beq_iff_eq, bne_iff_ne, A6, A7] at hc2; omega))) ?_
    refine E1 rfl (E8 rfl rfl rfl) (fun hc => I7 rfl E3 H2 (B0 rfl hc) (B0 rfl hc) hy (by first | omega | ((try simp only [A6, A7, B2, B7, A8, szR] at *); omega) | (have hc2 := hc; simp only [Bool.and_eq_true, Bool.or_eq_true, Bool.or_eq_false_iff, Bool.and_eq_false_iff, Bool.not_eq_true', Bool.not_eq_false', decide_eq_true_eq, decide_eq_false_iff_not, beq_iff_eq, bne_iff_ne, A6, A7] at hc2; omega))) ?_
    refine E1 rfl (E8 rfl rfl rfl) (fun hc => W7 rfl K0 rfl C0 (B0 rfl hc) rfl) ?_
    refine E1 rfl (E8 rfl rfl rfl) (fun hc => N6 rfl (B0 rfl hc) D0 rfl) ?_
    refine E1 rfl (E8 rfl rfl rfl) (fun hc => B3 0 rfl K0 rfl C0 (A0 rfl) rfl) ?_
    refine E1 rfl (E8 rfl rfl rfl) (fun hc => B1 0 rfl (B0 rfl hc) rfl D0 rfl) ?_
    refine E1 rfl (E8 rfl rfl rfl) (fun hc => d6 rfl (B0 rfl hc) (B0 rfl hc)) ?_
    refine E1 rfl (D4 rfl rfl rfl) (fun hc => I6 rfl (B0 rfl hc) (S0 rfl hc)) ?_
    refine B5 rfl rfl (Q4 rfl (A0 rfl) (G4 rfl)) ?_
    refine B5 rfl rfl (C6 rfl (A0 rfl)) ?_
    refine E1 rfl (D4 rfl rfl rfl) (fun hc => B3 1 rfl K0 rfl J4 (A0 rfl) rfl) ?_
    refine E1 rfl (D4 rfl rfl rfl) (fun hc => B1 0 rfl (B0 rfl hc) rfl L0 rfl) ?_
    refine E1 rfl (D4 rfl rfl rfl) (fun hc => C6 rfl (B0 rfl hc)) ?_
    refine E1 rfl (E8 rfl rfl rfl) (fun hc => B3 2 rfl K0 rfl C0 (A0 rfl) rfl) ?_
    refine E1 rfl (E8 rfl rfl rfl) (fun hc => B1 0 rfl (B0 rfl hc) rfl D0 rfl) ?_
    refine E1 rfl (E8 rfl rfl rfl) (fun hc => B3 0 rfl B8 rfl C0 (A0 rfl) rfl) ?_
    refine E1 rfl (E8 rfl rfl rfl) (fun hc => B1 1 rfl (B0 rfl hc) rfl D0 rfl) ?_
    refine E1 rfl (E8 rfl rfl rfl) (fun hc => E5 rfl Tryz.call137 rfl (a8 _ _ _) (A9 (B0 rfl hc) (A9 C4 (A9 (B0 rfl hc) D1)))) ?_
    refine E1 rfl (E8 rfl rfl rfl) (fun hc => M2 rfl (B0 rfl hc)) ?_
    refine E1 rfl (D4 rfl rfl rfl) (fun hc => I6 rfl (B0 rfl hc) (S0 rfl hc)) ?_
    refine B5 rfl rfl (Q4 rfl (A0 rfl) (G4 rfl)) ?_
    refine B5 rfl rfl (C6 rfl (A0 rfl)) ?_
    refine E1 rfl (D4 rfl rfl rfl) (fun hc => B3 1 rfl K0 rfl J4 (A0 rfl) rfl) ?_
    refine E1 rfl (D4 rfl rfl rfl) (fun hc => B1 0 rfl (B0 rfl hc) rfl L0 rfl) ?_
    refine E1 rfl (D4 rfl rfl rfl) (fun hc => M2 rfl (B0 rfl hc)) ?_
    refine E1 rfl (D4 rfl rfl rfl) (fun hc => C6 rfl (B0 rfl hc)) ?_
    refine E1 rfl (E8 rfl rfl rfl) (fun hc => B3 2 rfl K0 rfl C0 (A0 rfl) rfl) ?_
    refine E1 rfl (E8 rfl rfl rfl) (fun hc => B1 0 rfl (B0 rfl hc) rfl D0 rfl) ?_
    refine E1 rfl (E8 rfl rfl rfl) (fun hc => g8 rfl (B0 rfl hc) C4) ?_
    refine E1 rfl (D4 rfl rfl rfl) (fun hc => I6 rfl (B0 rfl hc) (S0 rfl hc)) ?_
    refine B5 rfl rfl (Q4 rfl (A0 rfl) (G4 rfl)) ?_
    refine O1 ?_
    refine C7 (A0 rfl) ?_ ?_
    ·intro h95
     have hfin : goodState s = false := by (rw [hgs2]; exact Z4 hlt (by rw [AK5 hx hy, h95]; rfl))
     refine A3 (A2 ?_)
     refine A1 rfl rfl rfl (C3 rfl F4) ?_
     refine A4 ?_
     refine C8 ?_
     exact H9 rfl (C5 rfl (by exact congrArg AV.bool hfin.symm))
    ·intro h95
     refine D2 (A3 (A2 ?_))
     refine A1 rfl rfl rfl (F2 1 rfl (A0 rfl) rfl D6 C1 rfl) ?_
     refine A1 rfl rfl rfl (B3 0 rfl K0 rfl C0 (A0 rfl) rfl) ?_
     refine A1 rfl rfl rfl (B1 0 rfl (A0 rfl) rfl D0 rfl) ?_
     refine A1 rfl rfl rfl (E5 rfl Tryz.call105 rfl (AP9 _ _ (by first | assumption | omega)) (A9 (A0 rfl) (A9 (A0 rfl) D1))) ?_
     refine A5 rfl rfl rfl rfl rfl ?_
     refine A1 rfl rfl rfl (F6 rfl (A0 rfl) rfl) ?_
     refine A1 rfl rfl rfl (F6 rfl (A0 rfl) rfl) ?_
     refine G0 rfl rfl rfl rfl Tryz.zeroValue45 rfl ?_
     intro b7
     refine D5 0 rfl rfl rfl (A0 rfl) (A0 rfl) (E2 _) rfl D3 rfl ?_
     refine B9 rfl rfl rfl rfl rfl ?_
     refine A4 (A3 (A2 ?_))
     refine A5 rfl rfl rfl rfl rfl ?_
     refine A4 ?_
     refine C7 (A0 rfl) ?_ ?_
     ·intro h103
      have hfin : goodState s = false := by (rw [hgs2]; exact Z4 hlt (by rw [AK5 hx hy, ← AE9, h103]; simp))
      refine A3 (A2 ?_)
      refine A1 rfl rfl rfl (C3 rfl F4) ?_
      refine A4 ?_
      refine C8 ?_
      exact H9 rfl (C5 rfl (by exact congrArg AV.bool hfin.symm))
     ·intro h103
      refine D2 (A2 ?_)
      refine A1 rfl rfl rfl (G7 rfl (A0 rfl) C4 (by first | omega | (simp only [A6, A7, B2, B7, A8, szR] at *; omega))) ?_
      refine A5 rfl rfl rfl rfl rfl ?_
      refine A4 ?_
      refine L4 q (q + 1) ?_ ?_ (T9 2 ⟨rfl, rfl, rfl, rfl, trivial⟩)
      ·exact ⟨by omega, fun j hj => if hji : j < q then hinv.2 j hji else (by have e : j = q := (by omega); subst e; rw [AK5 hx hy, h95, ← AE9, h103]; rfl)⟩
      ·omega
   ·intro h50
    have k50 := of_decide_eq_false h50; try simp only [A6] at k50
    have hge : s.Told.length ≤ q := by omega
    have hfin : goodState s = true := by (rw [hgs2]; exact p7.2 fun j hj => hinv.2 j (by omega))
    refine H3 ?_
    refine A3 (A2 ?_)
    refine A1 rfl rfl rfl (C3 rfl F4) ?_
    refine A4 ?_
    refine C8 ?_
    exact H9 rfl (C5 rfl (by exact congrArg AV.bool hfin.symm))
end Go.Proofs.YtnlhbdkcgaeimaaGreat

set_option linter.unusedVariables false
set_option linter.unusedSimpArgs false
set_option maxRecDepth 100000
namespace Go.Proofs.YtnlhbdkcgaeimaaGreat
open Go Go.AV Go.M
attribute [local irreducible] OpW OpA OpS AWP FSpec ESpec GSpec OpE RetOk RetOkG RvDen Le Ev GuardIs SrcIs
end Go.Proofs.YtnlhbdkcgaeimaaGreat

set_option linter.unusedVariables false
set_option linter.unusedSimpArgs false
set_option maxRecDepth 100000
namespace Go.Proofs.YtnlhbdkcgaeimaaGreat
open Go Go.AV Go.M
attribute [local irreducible] OpW OpA OpS AWP FSpec ESpec GSpec OpE RetOk RetOkG RvDen Le Ev GuardIs
end Go.Proofs.YtnlhbdkcgaeimaaGreat

set_option linter.unusedVariables false
set_option linter.unusedSimpArgs false
set_option maxRecDepth 100000
namespace Go.Proofs.YtnlhbdkcgaeimaaGreat
open Go Go.AV Go.M
attribute [local irreducible] OpW OpA OpS AWP FSpec ESpec GSpec OpE RetOk RetOkG RvDen Le Ev GuardIs SrcIs
theorem Ao4 (a b : Int) : FSpec Tryz.prog 214 [AV.int a, AV.int b] (AV.int (leastI a b)) := by
 refine E7 Tryz.func214 rfl Tryz.ntmps214 rfl ?_
 refine A3 (A2 ?_)
 refine A1 rfl rfl rfl (C3 rfl C4) ?_
 refine A4 (A3 (A3 (A2 ?_)))
 refine A5 rfl rfl rfl rfl rfl ?_
 refine A5 rfl rfl rfl rfl rfl ?_
 refine A1 rfl rfl rfl (K6 rfl (A0 rfl) (A0 rfl)) ?_
 refine A4 ?_
 refine C7 (A0 rfl) ?_ ?_
 ·intro h7
  have k7 := of_decide_eq_true h7; try simp only [A6] at k7
  have he : leastI a b = a := by unfold leastI; rw [if_pos k7]
  rw [he]
  refine A3 (A2 ?_)
  refine A5 rfl rfl rfl rfl rfl ?_
  refine B9 rfl rfl rfl rfl rfl ?_
  refine A4 ?_
  refine C8 ?_
  exact H9 rfl (C5 rfl (by first | rfl | (refine congrArg AV.bool ?_; simp_all; done)))
 ·intro h7
  have k7 := of_decide_eq_false h7; try simp only [A6] at k7
  have he : leastI a b = b := by unfold leastI; rw [if_neg k7]
  rw [he]
  refine D2 (A3 (A2 ?_))
  refine A5 rfl rfl rfl rfl rfl ?_
  refine B9 rfl rfl rfl rfl rfl ?_
  refine A4 ?_
  refine C8 ?_
  exact H9 rfl (C5 rfl (by first | rfl | (refine congrArg AV.bool ?_; simp_all; done)))
end Go.Proofs.YtnlhbdkcgaeimaaGreat

set_option linter.unusedVariables false
set_option linter.unusedSimpArgs false
set_option maxRecDepth 100000
set_option maxHeartbeats 2000000
namespace Go.M
open Go.AV
structure SO (s : TState) : Prop where
  floor : 0 ≤ s.Floor
  cells : CellsOk s.Cells
  hsort : s.Held.Pairwise fun a b => a.Txn < b.Txn
  tsort : s.Told.Pairwise fun a b => a.Txn < b.Txn
  times : ∀ h ∈ s.Held, 1 ≤ h.Time
theorem gs_so {s : TState} (g : GS s) : SO s := ⟨g.floor.1, V9 g.cells, g.hsort, g.tsort, fun h hm => (AC1 g hm).1⟩
theorem Au7 {t : Int} : ∀ {w : List TWrite} {l q : List TCell}, CellsOk l → putAll l w t = some q → CellsOk q
  | [], l, q, h, e => by simp [putAll] at e; subst e; exact h
  | x :: w, l, q, h, e => by
    unfold putAll at e
    split at e
    · cases e
    · exact Au7 (f8 h _ _) e
theorem so_apply {s : TState} (g : SO s) {r : TRec} (h : (applyS s r).2 = true) : SO (applyS s r).1 := by
  have h0 := g.floor
  have hless : SO ⟨s.Floor, s.Cells, lessH s.Held r.Txn, s.Told⟩ := ⟨h0, g.cells, g.hsort.sublist List.filter_sublist, g.tsort, fun k hk => g.times k (e9.1 hk).1⟩
  unfold applyS at h ⊢
  by_cases h4 : r.Kind = 4
  · rw [if_pos h4] at h ⊢
    have := of_decide_eq_true h
    exact ⟨by dsimp only; omega, g.cells, g.hsort, g.tsort, g.times⟩
  · rw [if_neg h4] at h ⊢
    by_cases hT : hasT s.Told r.Txn = true
    · rw [if_pos hT] at h; cases h
    · rw [if_neg hT] at h ⊢
      rw [Bool.not_eq_true] at hT
      have htn := AJ9.1 hT
      have htl : (insT ⟨r.Txn, r.Yes, r.Time⟩ s.Told).Pairwise fun a b => a.Txn < b.Txn := AO5 g.tsort htn
      by_cases h1 : r.Kind = 1
      · rw [if_pos h1] at h ⊢
        simp only [Bool.and_eq_true, Bool.not_eq_true', decide_eq_true_eq] at h
        refine ⟨by dsimp only; omega, g.cells, AO4 g.hsort (f9.1 h.1.1), g.tsort, fun k hk => ?_⟩
        rcases l0.1 hk with rfl | hk
        · show 1 ≤ r.Time; omega
        · exact g.times k hk
      · rw [if_neg h1] at h ⊢
        by_cases hy : r.Yes = true
        · rw [if_pos hy] at h ⊢
          cases hf : findH s.Held r.Txn with
          | none => rw [hf] at h; cases h
          | some k =>
            rw [hf] at h
            dsimp only at h ⊢
            by_cases hlt : r.Time < k.Time
            · rw [if_pos hlt] at h; cases h
            · rw [if_neg hlt] at h ⊢
              by_cases hp : (putP s.Cells k.Writes r.Time).2 = true
              · rw [if_pos hp]
                exact ⟨by unfold doneS; dsimp only; split <;> omega, Au7 g.cells (AR7 hp).1, hless.hsort, htl, hless.times⟩
              · rw [if_neg hp] at h; cases h
        · rw [if_neg hy]
          exact ⟨h0, g.cells, hless.hsort, htl, hless.times⟩
theorem so_step {s : TState} (g : SO s) (r : TRec) : SO (stepS s r) := by
  unfold stepS
  split
  · exact so_apply g ‹_›
  · exact g
theorem Ac9 : SO zState := gs_so t6
theorem AS0 : ∀ {l : List TRec} {s : TState}, SO s → SO (stFrom s l)
  | [], s, g => g
  | r :: l, s, g => by
    show SO (stFrom (stepS s r) l)
    exact AS0 (so_step g r)
theorem AF1 {l : List THeld} {i : Nat} {h : THeld} {n : Int} (hx : l[i]? = some h) : lessH (l.take (i + 1)) n = if (h.Txn != n) = true then lessH (l.take i) n ++ [h] else lessH (l.take i) n := by
  unfold lessH
  rw [List.take_add_one, hx, List.filter_append]
  show _ ++ List.filter _ [h] = _
  split
  · rename_i e; rw [List.filter_cons_of_pos (p := fun h : THeld => h.Txn != n) e]; rfl
  · rename_i e; rw [List.filter_cons_of_neg (p := fun h : THeld => h.Txn != n) e]; simp
end Go.M
namespace Go.Proofs.YtnlhbdkcgaeimaaGreat
open Go Go.AV Go.M
attribute [local irreducible] OpW OpA OpS AWP FSpec ESpec GSpec OpE RetOk RetOkG RvDen Le Ev GuardIs SrcIs Int.tmod Int.tdiv IntKind.wrap
theorem Aa2 (s : TState) (rs : List Str) (ws : List TWrite) (hs : s.size ≤ 400000) (hw : sizeL TWrite.size ws ≤ 400000) : FSpec Tryz.prog 126 [AV.agg s.cs, strs rs, AV.list 3 (ws.map TWrite.cs)] (AV.bool (fits s rs ws)) := by
 obtain ⟨hs1, hs2, hs3, hs4, hs5⟩ := R9 hs
 have hrm : room s.Cells (ws ++ hWs s.Held) = room s.Cells (hWs s.Held ++ ws) := Af3 fun w => by rw [List.mem_append, List.mem_append, or_comm]
 refine E7 Tryz.func126 rfl Tryz.ntmps126 rfl ?_
 refine A3 (A2 ?_)
 refine M3 rfl rfl rfl rfl (A0 rfl) ?_
 intro b3
 refine A1 rfl rfl rfl (C3 rfl F4) ?_
 refine A4 (A3 (A3 (A2 ?_)))
 refine A1 rfl rfl rfl (B3 2 rfl B8 rfl E9 (A0 rfl) rfl) ?_
 refine A1 rfl rfl rfl (B1 0 rfl (A0 rfl) rfl I3 rfl) ?_
 refine A1 rfl rfl rfl (G9 rfl C9 (A0 rfl)) ?_
 refine A1 rfl rfl rfl (C6 rfl C4) ?_
 refine A4 (D7 ?_)
 refine J9 [(1, _), (2, _), (3, _), (10, _), (11, _)] _ (fun (i : Nat) => i ≤ s.Held.length ∧ (s.Held.all fun h => apart h rs ws) = ((s.Held.drop i).all fun h => apart h rs ws)) (fun (i : Nat) => []) (fun (i : Nat) => [(12, AV.int i)]) (fun (i : Nat) => s.Held.length - i) (0) ?_ (J8 ⟨rfl, rfl, rfl, rfl, rfl, rfl, trivial⟩) ?_
 ·exact ⟨Nat.zero_le _, rfl⟩
 intro i hinv
 refine A3 (A2 ?_)
 refine A1 rfl rfl rfl (K6 rfl (A0 rfl) (A0 rfl)) ?_
 refine A4 (A3 ?_)
 refine C7 (A0 rfl) ?_ ?_
 ·intro h13
  have k13 := of_decide_eq_true h13; try simp only [A6] at k13
  have hlt : i < s.Held.length := by omega
  obtain ⟨h, hx⟩ := get_some hlt
  refine D2 (A3 (D7 (A3 (A2 ?_))))
  refine A1 rfl rfl rfl (I7 rfl C9 D3 (A0 rfl) (A0 rfl) hx (by first | omega | (simp only [A6, A7, B2, B7, A8, szR] at *; omega))) ?_
  refine A1 rfl rfl rfl (K4 rfl (A0 rfl) I0 D3) ?_
  refine G0 rfl rfl rfl rfl Tryz.zeroValue45 rfl ?_
  intro b8
  refine D5 0 rfl rfl rfl (A0 rfl) (A0 rfl) (E2 _) rfl D3 rfl ?_
  refine A4 (A3 (A2 ?_))
  refine A1 rfl rfl rfl (F2 0 rfl (A0 rfl) rfl I0 D3 rfl) ?_
  refine A5 rfl rfl rfl rfl rfl ?_
  refine A5 rfl rfl rfl rfl rfl ?_
  refine A1 rfl rfl rfl (E5 rfl Tryz.call222 rfl (apart_spec _ _ _) (A9 (A0 rfl) (A9 (A0 rfl) (A9 (A0 rfl) D1)))) ?_
  refine A1 rfl rfl rfl (M2 rfl (A0 rfl)) ?_
  refine A4 ?_
  refine C7 (A0 rfl) ?_ ?_
  ·intro h20
   have hfin : fits s rs ws = false := by (unfold fits; rw [hinv.2, drop_some hx, List.all_cons, show apart h rs ws = false by simpa using h20]; rfl)
   refine A3 (A2 ?_)
   refine A1 rfl rfl rfl (C3 rfl F4) ?_
   refine A4 ?_
   refine C8 ?_
   exact H9 rfl (C5 rfl (by first | exact congrArg AV.bool hfin.symm | exact congrArg AV.bool (by unfold fits; rw [hap, hrm, Bool.true_and, A6]; congr 1; rw [decide_eq_decide]; omega)))
  ·intro h20
   refine D2 (A2 ?_)
   refine A1 rfl rfl rfl (G7 rfl (A0 rfl) C4 (by first | omega | (simp only [A6, A7, B2, B7, A8, szR] at *; omega))) ?_
   refine A5 rfl rfl rfl rfl rfl ?_
   refine A4 ?_
   refine L4 i (i + 1) ?_ ?_ (T9 1 ⟨rfl, rfl, rfl, rfl, rfl, rfl, trivial⟩)
   ·exact ⟨by omega, by rw [hinv.2, drop_some hx, List.all_cons, show apart h rs ws = true by simpa using h20]; rfl⟩
   ·omega
 ·intro h13
  have k13 := of_decide_eq_false h13; try simp only [A6] at k13
  have hge : s.Held.length ≤ i := by omega
  have hap : (s.Held.all fun h => apart h rs ws) = true := by (rw [hinv.2, List.drop_eq_nil_of_le hge]; rfl)
  refine H3 ?_
  refine A3 (A2 ?_)
  refine A1 rfl rfl rfl (B3 2 rfl B8 rfl E9 (A0 rfl) rfl) ?_
  refine A1 rfl rfl rfl (B1 0 rfl (A0 rfl) rfl I3 rfl) ?_
  refine A1 rfl rfl rfl (G9 rfl C9 (A0 rfl)) ?_
  refine A1 rfl rfl rfl (K6 rfl (A0 rfl) C4) ?_
  refine A5 rfl rfl rfl rfl rfl ?_
  refine B4 rfl rfl (C2 rfl rfl rfl) (fun hc => F2 0 rfl (A0 rfl) rfl D6 C1 rfl) ?_
  refine B4 rfl rfl (C2 rfl rfl rfl) (fun hc => C6 rfl (A0 rfl)) ?_
  refine B4 rfl rfl (C2 rfl rfl rfl) (fun hc => E5 rfl Tryz.call223 rfl (Aa1 _ _ (by first | assumption | omega) (by first | assumption | omega)) (A9 (B0 rfl hc) (A9 (B0 rfl hc) D1))) ?_
  refine A1 rfl rfl rfl (I6 rfl (A0 rfl) (G4 rfl)) ?_
  refine B9 rfl rfl rfl rfl rfl ?_
  refine A4 ?_
  refine C8 ?_
  exact H9 rfl (C5 rfl (by first | exact congrArg AV.bool hfin.symm | exact congrArg AV.bool (by unfold fits; rw [hap, hrm, Bool.true_and, A6]; congr 1; rw [decide_eq_decide]; omega)))
theorem Ar9 (h : THeld) (hs : h.size ≤ 1048576) : GSpec Tryz.prog 106 [AV.agg h.cs] [] (fun _ : Value × Value => True) (fun x => THeld.ow h x) (fun x => AV.agg (THeld.ocs h x)) := by
 have h3 := O2 (f := fun x : Str => x.length) (l := h.Reads)
 have h4 := O2 (f := TWrite.size) (l := h.Writes)
 have h5 : h.size = sizeL (fun x => x.length) h.Reads + sizeL TWrite.size h.Writes := rfl
 refine H5 Tryz.func106 rfl Tryz.ntmps106 rfl ?_
 refine A3 (A2 ?_)
 refine M3 rfl rfl rfl rfl (A0 rfl) ?_
 intro b1
 refine G0 rfl rfl rfl rfl Tryz.zeroValue45 rfl ?_
 intro b2
 refine A4 (A3 (A2 ?_))
 refine A1 rfl rfl rfl (B3 3 rfl F1 rfl L7 (A0 rfl) rfl) ?_
 refine A1 rfl rfl rfl (B1 1 rfl (A0 rfl) rfl N9 rfl) ?_
 refine I2 [] rfl rfl rfl rfl Tryz.call169 rfl (AC2 h.Reads (by omega)) (A9 (A0 rfl) D1) rfl ?_
 intro x5 ok5
 refine A1 rfl rfl rfl (B3 3 rfl F1 rfl L7 (A0 rfl) rfl) ?_
 refine Q8 0 rfl fun one_x5 => ?_
 refine I4 2 rfl rfl rfl (A0 rfl) (A0 rfl) (Q9 one_x5) rfl L7 rfl ?_
 refine A4 (A3 (A2 ?_))
 refine S4 rfl rfl rfl rfl F3 H7 ?_
 intro v7
 refine A1 rfl rfl rfl (B3 4 rfl F1 rfl K2 (A0 rfl) rfl) ?_
 refine A1 rfl rfl rfl (B1 3 rfl (A0 rfl) rfl L8 rfl) ?_
 refine L5 (by' := 40) 0 rfl rfl rfl rfl F3 Tryz.type77 rfl rfl rfl rfl rfl rfl (A0 rfl) (A0 rfl) rfl (by simp only [B7, A6]; omega) ?_
 intro v10_1
 refine A1 rfl rfl rfl (B3 4 rfl F1 rfl K2 (A0 rfl) rfl) ?_
 refine Q8 0 rfl fun one_v10_1 => ?_
 refine I4 3 rfl rfl rfl (A0 rfl) (A0 rfl) (Q9 one_v10_1) rfl K2 rfl ?_
 refine A4 (A3 (A2 ?_))
 refine A1 rfl rfl rfl (F2 3 rfl (A0 rfl) rfl I0 D3 rfl) ?_
 refine D5 2 rfl rfl rfl (A0 rfl) (A0 rfl) (E2 _) rfl D3 rfl ?_
 refine A4 ?_
 refine C8 ?_
 exact K1 [1, 0] (x5, v10_1) (trivial) rfl (by rfl) (N1 rfl (J6 (ys := _) 2 rfl rfl I0 D3 rfl))
theorem i7 (h : THeld) (hs : h.size ≤ 1048576) : FSpec Tryz.prog 106 [AV.agg h.cs] (AV.agg h.cs) :=
  Q7 (Ar9 h hs) fun x _ => X7 (THeld.lc h x)
theorem AU1 (l : List TCell) (hs : sizeL TCell.size l ≤ 4194304) : FSpec Tryz.prog 208 [AV.list 2 (l.map TCell.cs)] (AV.list 2 (l.map TCell.cs)) :=
  Q7 (Ag5 l hs) fun x h => k5 TCell.lcM h 0 rfl fun o ho => List.mem_cons_of_mem _ ho
theorem Ao5 (s : TState) (hs : s.size ≤ 1048576) : GSpec Tryz.prog 107 [AV.agg s.cs] [] (fun _ : Value × Value => True) (fun x => TState.ow s x) (fun x => AV.agg (TState.ocs s x)) := by
 obtain ⟨hs1, hs2, hs3, hs4, hs5⟩ := R9 hs
 refine H5 Tryz.func107 rfl Tryz.ntmps107 rfl ?_
 refine A3 (A2 ?_)
 refine M3 rfl rfl rfl rfl (A0 rfl) ?_
 intro b1
 refine G0 rfl rfl rfl rfl Tryz.zeroValue30 rfl ?_
 intro b2
 refine A4 (A3 ?_)
 refine V7 _ 11 (.pure 0 (.pure 1 (.pure 2 (.pure 3 (.pure 4 (.pure 6 (.pure 7 (.e2 5 (.e2 8 (.pure 9 (.e1 10 .nil)) 10 (.e1 8 (.pure 9 .nil))) 10 (.e1 5 (.e1 8 (.pure 9 .nil))))))))))) (by kernel_rfl) (by kernel_rfl) rfl j4 ?_
 refine J2 rfl rfl rfl (fun ext => B3 0 rfl B8 rfl C0 (A0 rfl) rfl) ?_
 refine J2 rfl rfl rfl (fun ext => B1 1 rfl (A0 rfl) rfl D0 rfl) ?_
 refine J2 rfl rfl rfl (fun ext => B3 1 rfl B8 rfl M7 (A0 rfl) rfl) ?_
 refine J2 rfl rfl rfl (fun ext => B1 1 rfl (A0 rfl) rfl P5 rfl) ?_
 refine J2 rfl rfl rfl (fun ext => E5 rfl Tryz.call208 rfl (AU1 s.Cells (by omega)) (A9 (A0 rfl) D1)) ?_
 refine J2 rfl rfl rfl (fun ext => B3 3 rfl B8 rfl J3 (A0 rfl) rfl) ?_
 refine J2 rfl rfl rfl (fun ext => B1 1 rfl (A0 rfl) rfl O0 rfl) ?_
 refine AJ5 ?_ ?_
 ·refine U0 rfl rfl rfl (a6 rfl E3 H2) (fun a _ => (by first | exact F8 rfl | exact F8 (List.append_assoc _ _ _) | exact J5)) ?_
  intro v11 _
  refine AJ5 ?_ ?_
  ·refine U0 rfl rfl rfl (e6 2 (fun _ => rfl) (P7 (by' := 24) 2 rfl E3 Tryz.type39 rfl rfl rfl rfl rfl rfl (A0 rfl) (A0 rfl) rfl (by simp only [B7, A6]; omega))) (fun a _ => (by first | exact F8 rfl | exact F8 (List.append_assoc _ _ _) | exact J5)) ?_
   intro v14_1 hone_v14_1
   have one_v14_1 := hone_v14_1.2
   refine J2 rfl rfl rfl (fun ext => N0 (places := #[(0, 1), (1, 1), (2, 1), (3, 1)]) rfl B8 Tryz.zeroValue30 (fun w => by kernel_rfl) rfl (E0 (A0 rfl) (K9 _ _) (E0 (A0 rfl) (S2 _ _) (E0 (A0 rfl) (Q9 one_v14_1) H6))) rfl) ?_
   refine X0 ?_
   refine U0 rfl rfl rfl (j5 rfl Tryz.zeroValue30 rfl) (fun a _ => (by first | exact F8 rfl | exact F8 (List.append_assoc _ _ _) | exact J5)) ?_
   intro b3 _
   refine d4 ?_
   refine D5 3 rfl rfl rfl (A0 rfl) (A0 rfl) (E2 _) rfl C1 rfl ?_
   refine A4 (A3 (A3 (A2 ?_)))
   refine A1 rfl rfl rfl (B3 2 rfl B8 rfl E9 (A0 rfl) rfl) ?_
   refine A1 rfl rfl rfl (B1 1 rfl (A0 rfl) rfl I3 rfl) ?_
   refine A1 rfl rfl rfl (G9 rfl C9 (A0 rfl)) ?_
   refine A1 rfl rfl rfl (C6 rfl C4) ?_
   refine A4 (D7 ?_)
   refine X8 45 5 ?_
   refine AWP.le (I8 [4, 0] rfl) ?_
   refine R8 [(2, _), (3, _), (17, _), (18, _)] _ (fun (i : Nat) (v : Value) => i ≤ s.Held.length) (fun (i : Nat) (v : Value) => [.box b3 30 [AV.int s.Floor, AV.list 2 (s.Cells.map TCell.cs), AV.is v, AV.is v14_1], .arr v 45 5 ((s.Held.take i).map THeld.cs)]) (fun (i : Nat) (v : Value) => [(19, AV.int i)]) (fun (i : Nat) (v : Value) => s.Held.length - i) (0) ((Value.slice none 0 0)) ?_ (S7 (by rfl) ⟨rfl, rfl, rfl, rfl, rfl, trivial⟩) ?_
   ·exact Nat.zero_le _
   intro i v hinv
   refine A3 (A2 ?_)
   refine A1 rfl rfl rfl (K6 rfl (A0 rfl) (A0 rfl)) ?_
   refine A4 (A3 ?_)
   refine C7 (A0 rfl) ?_ ?_
   ·intro h20
    have k20 := of_decide_eq_true h20; try simp only [A6] at k20
    have hlt : i < s.Held.length := by omega
    obtain ⟨h, hx⟩ := get_some hlt
    obtain ⟨g1, g2, g3, g4, g5⟩ := U2 hs2 hx
    refine D2 (A3 (D7 (A3 (A2 ?_))))
    refine A1 rfl rfl rfl (I7 rfl C9 D3 (A0 rfl) (A0 rfl) hx (by first | omega | (simp only [A6, A7, B2, B7, A8, szR] at *; omega))) ?_
    refine A1 rfl rfl rfl (K4 rfl (A0 rfl) I0 D3) ?_
    refine G0 rfl rfl rfl rfl Tryz.zeroValue45 rfl ?_
    intro b5
    refine D5 0 rfl rfl rfl (A0 rfl) (A0 rfl) (E2 _) rfl D3 rfl ?_
    refine A4 ?_
    refine P9 5 (by kernel_rfl) (by kernel_rfl) rfl ?_
    refine B5 rfl rfl (B3 2 rfl B8 rfl E9 (A0 rfl) rfl) ?_
    refine B5 rfl rfl (B1 1 rfl (A0 rfl) rfl I3 rfl) ?_
    refine B5 rfl rfl (F2 0 rfl (A0 rfl) rfl I0 D3 rfl) ?_
    refine B5 rfl rfl (E5 rfl Tryz.call106 rfl (i7 _ (by first | assumption | omega)) (A9 (A0 rfl) D1)) ?_
    refine B5 rfl rfl (L9 rfl C9 D3 Tryz.zeroValue45 rfl rfl rfl rfl (E0 (A0 rfl) (E2 _) H6) rfl rfl) ?_
    refine O1 ?_
    refine L5 (by' := 72) 2 rfl rfl rfl rfl C9 Tryz.type45 rfl rfl rfl rfl rfl rfl (A0 rfl) (A0 rfl) rfl (by simp only [A6, A7, A8]; omega) ?_
    intro v28_2
    refine A1 rfl rfl rfl (B3 2 rfl B8 rfl E9 (A0 rfl) rfl) ?_
    refine Q8 2 rfl fun one_v28_2 => ?_
    refine I4 1 rfl rfl rfl (A0 rfl) (A0 rfl) (Q9 one_v28_2) rfl E9 rfl ?_
    refine A4 (A2 ?_)
    refine A1 rfl rfl rfl (G7 rfl (A0 rfl) C4 (by first | omega | (simp only [A6, A7, B2, B7, A8, szR] at *; omega))) ?_
    refine A5 rfl rfl rfl rfl rfl ?_
    refine A4 ?_
    refine Q1 i v (i + 1) (v28_2) ?_ ?_ (Le.trans (I8 [0, 0, 0] rfl) (M1 1 (by exact congrArg (fun z => Own.box b3 30 [AV.int s.Floor, AV.list 2 (s.Cells.map TCell.cs), AV.is v28_2, AV.is v14_1] :: Own.arr v28_2 45 5 z :: _) (V1 (f := THeld.cs) hx)) ⟨rfl, rfl, rfl, rfl, rfl, trivial⟩))
    ·omega
    ·omega
   ·intro h20
    have k20 := of_decide_eq_false h20; try simp only [A6] at k20
    have hge : i = s.Held.length := by omega
    rw [hge, List.take_length]
    refine H3 ?_
    refine A3 (A2 ?_)
    refine A1 rfl rfl rfl (F2 0 rfl (A0 rfl) rfl D6 C1 rfl) ?_
    refine D5 2 rfl rfl rfl (A0 rfl) (A0 rfl) (E2 _) rfl C1 rfl ?_
    refine A4 ?_
    refine C8 ?_
    exact K1 [1, 3] (v, v14_1) (trivial) rfl (by rfl) (N1 rfl (J6 (ys := _) 2 rfl rfl D6 C1 rfl))
  ·refine U0 rfl rfl rfl (j5 rfl Tryz.zeroValue30 rfl) (fun a _ => (by first | exact F8 rfl | exact F8 (List.append_assoc _ _ _) | exact J5)) ?_
   intro b3 _
   refine X0 ?_
   refine U0 rfl rfl rfl (e6 2 (fun _ => rfl) (P7 (by' := 24) 2 rfl E3 Tryz.type39 rfl rfl rfl rfl rfl rfl (A0 rfl) (A0 rfl) rfl (by simp only [B7, A6]; omega))) (fun a _ => (by first | exact F8 rfl | exact F8 (List.append_assoc _ _ _) | exact J5)) ?_
   intro v14_3 hone_v14_3
   have one_v14_3 := hone_v14_3.2
   refine J2 rfl rfl rfl (fun ext => N0 (places := #[(0, 1), (1, 1), (2, 1), (3, 1)]) rfl B8 Tryz.zeroValue30 (fun w => by kernel_rfl) rfl (E0 (A0 rfl) (K9 _ _) (E0 (A0 rfl) (S2 _ _) (E0 (A0 rfl) (Q9 one_v14_3) H6))) rfl) ?_
   refine d4 ?_
   refine D5 3 rfl rfl rfl (A0 rfl) (A0 rfl) (E2 _) rfl C1 rfl ?_
   refine A4 (A3 (A3 (A2 ?_)))
   refine A1 rfl rfl rfl (B3 2 rfl B8 rfl E9 (A0 rfl) rfl) ?_
   refine A1 rfl rfl rfl (B1 1 rfl (A0 rfl) rfl I3 rfl) ?_
   refine A1 rfl rfl rfl (G9 rfl C9 (A0 rfl)) ?_
   refine A1 rfl rfl rfl (C6 rfl C4) ?_
   refine A4 (D7 ?_)
   refine X8 45 5 ?_
   refine AWP.le (I8 [4, 0] rfl) ?_
   refine R8 [(2, _), (3, _), (17, _), (18, _)] _ (fun (i : Nat) (v : Value) => i ≤ s.Held.length) (fun (i : Nat) (v : Value) => [.box b3 30 [AV.int s.Floor, AV.list 2 (s.Cells.map TCell.cs), AV.is v, AV.is v14_3], .arr v 45 5 ((s.Held.take i).map THeld.cs)]) (fun (i : Nat) (v : Value) => [(19, AV.int i)]) (fun (i : Nat) (v : Value) => s.Held.length - i) (0) ((Value.slice none 0 0)) ?_ (S7 (by rfl) ⟨rfl, rfl, rfl, rfl, rfl, trivial⟩) ?_
   ·exact Nat.zero_le _
   intro i v hinv
   refine A3 (A2 ?_)
   refine A1 rfl rfl rfl (K6 rfl (A0 rfl) (A0 rfl)) ?_
   refine A4 (A3 ?_)
   refine C7 (A0 rfl) ?_ ?_
   ·intro h20
    have k20 := of_decide_eq_true h20; try simp only [A6] at k20
    have hlt : i < s.Held.length := by omega
    obtain ⟨h, hx⟩ := get_some hlt
    obtain ⟨g1, g2, g3, g4, g5⟩ := U2 hs2 hx
    refine D2 (A3 (D7 (A3 (A2 ?_))))
    refine A1 rfl rfl rfl (I7 rfl C9 D3 (A0 rfl) (A0 rfl) hx (by first | omega | (simp only [A6, A7, B2, B7, A8, szR] at *; omega))) ?_
    refine A1 rfl rfl rfl (K4 rfl (A0 rfl) I0 D3) ?_
    refine G0 rfl rfl rfl rfl Tryz.zeroValue45 rfl ?_
    intro b5
    refine D5 0 rfl rfl rfl (A0 rfl) (A0 rfl) (E2 _) rfl D3 rfl ?_
    refine A4 ?_
    refine P9 5 (by kernel_rfl) (by kernel_rfl) rfl ?_
    refine B5 rfl rfl (B3 2 rfl B8 rfl E9 (A0 rfl) rfl) ?_
    refine B5 rfl rfl (B1 1 rfl (A0 rfl) rfl I3 rfl) ?_
    refine B5 rfl rfl (F2 0 rfl (A0 rfl) rfl I0 D3 rfl) ?_
    refine B5 rfl rfl (E5 rfl Tryz.call106 rfl (i7 _ (by first | assumption | omega)) (A9 (A0 rfl) D1)) ?_
    refine B5 rfl rfl (L9 rfl C9 D3 Tryz.zeroValue45 rfl rfl rfl rfl (E0 (A0 rfl) (E2 _) H6) rfl rfl) ?_
    refine O1 ?_
    refine L5 (by' := 72) 2 rfl rfl rfl rfl C9 Tryz.type45 rfl rfl rfl rfl rfl rfl (A0 rfl) (A0 rfl) rfl (by simp only [A6, A7, A8]; omega) ?_
    intro v28_4
    refine A1 rfl rfl rfl (B3 2 rfl B8 rfl E9 (A0 rfl) rfl) ?_
    refine Q8 2 rfl fun one_v28_4 => ?_
    refine I4 1 rfl rfl rfl (A0 rfl) (A0 rfl) (Q9 one_v28_4) rfl E9 rfl ?_
    refine A4 (A2 ?_)
    refine A1 rfl rfl rfl (G7 rfl (A0 rfl) C4 (by first | omega | (simp only [A6, A7, B2, B7, A8, szR] at *; omega))) ?_
    refine A5 rfl rfl rfl rfl rfl ?_
    refine A4 ?_
    refine Q1 i v (i + 1) (v28_4) ?_ ?_ (Le.trans (I8 [0, 0, 0] rfl) (M1 1 (by exact congrArg (fun z => Own.box b3 30 [AV.int s.Floor, AV.list 2 (s.Cells.map TCell.cs), AV.is v28_4, AV.is v14_3] :: Own.arr v28_4 45 5 z :: _) (V1 (f := THeld.cs) hx)) ⟨rfl, rfl, rfl, rfl, rfl, trivial⟩))
    ·omega
    ·omega
   ·intro h20
    have k20 := of_decide_eq_false h20; try simp only [A6] at k20
    have hge : i = s.Held.length := by omega
    rw [hge, List.take_length]
    refine H3 ?_
    refine A3 (A2 ?_)
    refine A1 rfl rfl rfl (F2 0 rfl (A0 rfl) rfl D6 C1 rfl) ?_
    refine D5 2 rfl rfl rfl (A0 rfl) (A0 rfl) (E2 _) rfl C1 rfl ?_
    refine A4 ?_
    refine C8 ?_
    exact K1 [1, 3] (v, v14_3) (trivial) rfl (by rfl) (N1 rfl (J6 (ys := _) 2 rfl rfl D6 C1 rfl))
 ·refine U0 rfl rfl rfl (j5 rfl Tryz.zeroValue30 rfl) (fun a _ => (by first | exact F8 rfl | exact F8 (List.append_assoc _ _ _) | exact J5)) ?_
  intro b3 _
  refine X0 ?_
  refine U0 rfl rfl rfl (a6 rfl E3 H2) (fun a _ => (by first | exact F8 rfl | exact F8 (List.append_assoc _ _ _) | exact J5)) ?_
  intro v11 _
  refine X0 ?_
  refine U0 rfl rfl rfl (e6 3 (fun _ => rfl) (P7 (by' := 24) 3 rfl E3 Tryz.type39 rfl rfl rfl rfl rfl rfl (A0 rfl) (A0 rfl) rfl (by simp only [B7, A6]; omega))) (fun a _ => (by first | exact F8 rfl | exact F8 (List.append_assoc _ _ _) | exact J5)) ?_
  intro v14_5 hone_v14_5
  have one_v14_5 := hone_v14_5.2
  refine J2 rfl rfl rfl (fun ext => N0 (places := #[(0, 1), (1, 1), (2, 1), (3, 1)]) rfl B8 Tryz.zeroValue30 (fun w => by kernel_rfl) rfl (E0 (A0 rfl) (K9 _ _) (E0 (A0 rfl) (S2 _ _) (E0 (A0 rfl) (Q9 one_v14_5) H6))) rfl) ?_
  refine d4 ?_
  refine D5 2 rfl rfl rfl (A0 rfl) (A0 rfl) (E2 _) rfl C1 rfl ?_
  refine A4 (A3 (A3 (A2 ?_)))
  refine A1 rfl rfl rfl (B3 2 rfl B8 rfl E9 (A0 rfl) rfl) ?_
  refine A1 rfl rfl rfl (B1 1 rfl (A0 rfl) rfl I3 rfl) ?_
  refine A1 rfl rfl rfl (G9 rfl C9 (A0 rfl)) ?_
  refine A1 rfl rfl rfl (C6 rfl C4) ?_
  refine A4 (D7 ?_)
  refine X8 45 5 ?_
  refine AWP.le (I8 [3, 0] rfl) ?_
  refine R8 [(2, _), (3, _), (17, _), (18, _)] _ (fun (i : Nat) (v : Value) => i ≤ s.Held.length) (fun (i : Nat) (v : Value) => [.box b3 30 [AV.int s.Floor, AV.list 2 (s.Cells.map TCell.cs), AV.is v, AV.is v14_5], .arr v 45 5 ((s.Held.take i).map THeld.cs)]) (fun (i : Nat) (v : Value) => [(19, AV.int i)]) (fun (i : Nat) (v : Value) => s.Held.length - i) (0) ((Value.slice none 0 0)) ?_ (S7 (by rfl) ⟨rfl, rfl, rfl, rfl, rfl, trivial⟩) ?_
  ·exact Nat.zero_le _
  intro i v hinv
  refine A3 (A2 ?_)
  refine A1 rfl rfl rfl (K6 rfl (A0 rfl) (A0 rfl)) ?_
  refine A4 (A3 ?_)
  refine C7 (A0 rfl) ?_ ?_
  ·intro h20
   have k20 := of_decide_eq_true h20; try simp only [A6] at k20
   have hlt : i < s.Held.length := by omega
   obtain ⟨h, hx⟩ := get_some hlt
   obtain ⟨g1, g2, g3, g4, g5⟩ := U2 hs2 hx
   refine D2 (A3 (D7 (A3 (A2 ?_))))
   refine A1 rfl rfl rfl (I7 rfl C9 D3 (A0 rfl) (A0 rfl) hx (by first | omega | (simp only [A6, A7, B2, B7, A8, szR] at *; omega))) ?_
   refine A1 rfl rfl rfl (K4 rfl (A0 rfl) I0 D3) ?_
   refine G0 rfl rfl rfl rfl Tryz.zeroValue45 rfl ?_
   intro b5
   refine D5 0 rfl rfl rfl (A0 rfl) (A0 rfl) (E2 _) rfl D3 rfl ?_
   refine A4 ?_
   refine P9 5 (by kernel_rfl) (by kernel_rfl) rfl ?_
   refine B5 rfl rfl (B3 2 rfl B8 rfl E9 (A0 rfl) rfl) ?_
   refine B5 rfl rfl (B1 1 rfl (A0 rfl) rfl I3 rfl) ?_
   refine B5 rfl rfl (F2 0 rfl (A0 rfl) rfl I0 D3 rfl) ?_
   refine B5 rfl rfl (E5 rfl Tryz.call106 rfl (i7 _ (by first | assumption | omega)) (A9 (A0 rfl) D1)) ?_
   refine B5 rfl rfl (L9 rfl C9 D3 Tryz.zeroValue45 rfl rfl rfl rfl (E0 (A0 rfl) (E2 _) H6) rfl rfl) ?_
   refine O1 ?_
   refine L5 (by' := 72) 2 rfl rfl rfl rfl C9 Tryz.type45 rfl rfl rfl rfl rfl rfl (A0 rfl) (A0 rfl) rfl (by simp only [A6, A7, A8]; omega) ?_
   intro v28_6
   refine A1 rfl rfl rfl (B3 2 rfl B8 rfl E9 (A0 rfl) rfl) ?_
   refine Q8 2 rfl fun one_v28_6 => ?_
   refine I4 1 rfl rfl rfl (A0 rfl) (A0 rfl) (Q9 one_v28_6) rfl E9 rfl ?_
   refine A4 (A2 ?_)
   refine A1 rfl rfl rfl (G7 rfl (A0 rfl) C4 (by first | omega | (simp only [A6, A7, B2, B7, A8, szR] at *; omega))) ?_
   refine A5 rfl rfl rfl rfl rfl ?_
   refine A4 ?_
   refine Q1 i v (i + 1) (v28_6) ?_ ?_ (Le.trans (I8 [0, 0, 0] rfl) (M1 1 (by exact congrArg (fun z => Own.box b3 30 [AV.int s.Floor, AV.list 2 (s.Cells.map TCell.cs), AV.is v28_6, AV.is v14_5] :: Own.arr v28_6 45 5 z :: _) (V1 (f := THeld.cs) hx)) ⟨rfl, rfl, rfl, rfl, rfl, trivial⟩))
   ·omega
   ·omega
  ·intro h20
   have k20 := of_decide_eq_false h20; try simp only [A6] at k20
   have hge : i = s.Held.length := by omega
   rw [hge, List.take_length]
   refine H3 ?_
   refine A3 (A2 ?_)
   refine A1 rfl rfl rfl (F2 0 rfl (A0 rfl) rfl D6 C1 rfl) ?_
   refine D5 2 rfl rfl rfl (A0 rfl) (A0 rfl) (E2 _) rfl C1 rfl ?_
   refine A4 ?_
   refine C8 ?_
   exact K1 [1, 3] (v, v14_5) (trivial) rfl (by rfl) (N1 rfl (J6 (ys := _) 2 rfl rfl D6 C1 rfl))
theorem Ai4 (s : TState) (hs : s.size ≤ 1048576) : FSpec Tryz.prog 107 [AV.agg s.cs] (AV.agg s.cs) :=
  Q7 (Ao5 s hs) fun x _ => X7 (TState.lc s x)
theorem AW6 (l : List THeld) (n : Int) (hl : l.length ≤ 1048576) : GSpec Tryz.prog 206 [AV.list 5 (l.map THeld.cs), AV.int n] [] (fun _ : Value => True) (fun v => [.arr v 45 5 ((lessH l n).map THeld.cs)]) (fun v => AV.is v) := by
 refine H5 Tryz.func206 rfl Tryz.ntmps206 rfl ?_
 refine A3 (A2 ?_)
 refine A1 rfl rfl rfl (C3 rfl K5) ?_
 refine A4 (A3 (A2 ?_))
 refine Q5 45 5 rfl rfl rfl rfl K5 ?_
 intro v5
 refine A4 (A3 (A3 (A2 ?_)))
 refine A5 rfl rfl rfl rfl rfl ?_
 refine A1 rfl rfl rfl (G9 rfl C9 (A0 rfl)) ?_
 refine A1 rfl rfl rfl (C6 rfl C4) ?_
 refine A4 (D7 ?_)
 refine V0 [(1, _), (4, _), (8, _), (9, _)] _ (fun (i : Nat) (v : Value) (q : List THeld) => i ≤ l.length ∧ q = lessH (l.take i) n ∧ q.length ≤ i) (fun (i : Nat) (v : Value) (q : List THeld) => [.arr v 45 5 (q.map THeld.cs)]) (fun (i : Nat) (v : Value) (q : List THeld) => [(5, AV.is v), (10, AV.int i)]) (fun (i : Nat) (v : Value) (q : List THeld) => l.length - i) (0) (v5) ([]) ?_ (S7 (by rfl) ⟨rfl, rfl, rfl, rfl, rfl, rfl, trivial⟩) ?_
 ·exact ⟨Nat.zero_le _, rfl, Nat.le_refl _⟩
 intro i v q hinv
 refine A3 (A2 ?_)
 refine A1 rfl rfl rfl (K6 rfl (A0 rfl) (A0 rfl)) ?_
 refine A4 (A3 ?_)
 refine C7 (A0 rfl) ?_ ?_
 ·intro h11
  have k11 := of_decide_eq_true h11; try simp only [A6] at k11
  have hlt : i < l.length := by omega
  obtain ⟨h, hx⟩ := get_some hlt
  refine D2 (A3 (D7 (A3 (A2 ?_))))
  refine A1 rfl rfl rfl (I7 rfl C9 D3 (A0 rfl) (A0 rfl) hx (by first | omega | (simp only [A6, A7, B2, B7, A8, szR] at *; omega))) ?_
  refine A1 rfl rfl rfl (K4 rfl (A0 rfl) I0 D3) ?_
  refine G0 rfl rfl rfl rfl Tryz.zeroValue45 rfl ?_
  intro b7
  refine D5 0 rfl rfl rfl (A0 rfl) (A0 rfl) (E2 _) rfl D3 rfl ?_
  refine A4 (A3 (A2 ?_))
  refine A1 rfl rfl rfl (B3 0 rfl F1 rfl C0 (A0 rfl) rfl) ?_
  refine A1 rfl rfl rfl (B1 0 rfl (A0 rfl) rfl D0 rfl) ?_
  refine A5 rfl rfl rfl rfl rfl ?_
  refine A1 rfl rfl rfl (g8 rfl (A0 rfl) (A0 rfl)) ?_
  refine A4 ?_
  refine C7 (A0 rfl) ?_ ?_
  ·intro h17
   have k17 := i9 h17; try simp only [A6] at k17
   refine A2 ?_
   refine A5 rfl rfl rfl rfl rfl ?_
   refine A1 rfl rfl rfl (F2 0 rfl (A0 rfl) rfl I0 D3 rfl) ?_
   refine A1 rfl rfl rfl (L9 rfl C9 D3 Tryz.zeroValue45 rfl rfl rfl rfl (E0 (A0 rfl) (E2 _) H6) rfl rfl) ?_
   refine L5 (by' := 72) 1 rfl rfl rfl rfl C9 Tryz.type45 rfl rfl rfl rfl rfl rfl (A0 rfl) (A0 rfl) rfl (by first | omega | (simp only [A6, A7, B2, B7, A8, szR] at *; omega)) ?_
   intro v21_1
   refine B9 rfl rfl rfl rfl rfl ?_
   refine A4 (A2 ?_)
   refine A1 rfl rfl rfl (G7 rfl (A0 rfl) C4 (by first | omega | (simp only [A6, A7, B2, B7, A8, szR] at *; omega))) ?_
   refine A5 rfl rfl rfl rfl rfl ?_
   refine A4 ?_
   refine T5 i v q (i + 1) (v21_1) (q ++ [h]) ?_ ?_ (Le.trans (I8 [0, 0] rfl) (M1 1 (by first | rfl | (rw [List.map_append]; rfl)) ⟨rfl, rfl, rfl, rfl, rfl, rfl, trivial⟩))
   ·first | exact ⟨by omega, by rw [AF1 hx, if_pos h17, hinv.2.1], by rw [J1]; simp; omega⟩ | exact ⟨by omega, by rw [AF1 hx, if_neg (by rw [h17]; decide), hinv.2.1], by omega⟩
   ·omega
  ·intro h17
   have k17 := V5 h17; try simp only [A6] at k17
   refine D2 (A2 ?_)
   refine A1 rfl rfl rfl (G7 rfl (A0 rfl) C4 (by first | omega | (simp only [A6, A7, B2, B7, A8, szR] at *; omega))) ?_
   refine A5 rfl rfl rfl rfl rfl ?_
   refine A4 ?_
   refine T5 i v q (i + 1) (v) (q) ?_ ?_ (Le.trans (I8 [0, 0] rfl) (M1 1 (by first | rfl | (rw [List.map_append]; rfl)) ⟨rfl, rfl, rfl, rfl, rfl, rfl, trivial⟩))
   ·first | exact ⟨by omega, by rw [AF1 hx, if_pos h17, hinv.2.1], by rw [J1]; simp; omega⟩ | exact ⟨by omega, by rw [AF1 hx, if_neg (by rw [h17]; decide), hinv.2.1], by omega⟩
   ·omega
 ·intro h11
  have k11 := of_decide_eq_false h11; try simp only [A6] at k11
  have hge : l.length ≤ i := by omega
  have hq := hinv.2.1
  rw [List.take_of_length_le hge] at hq
  rw [← hq]
  refine H3 ?_
  refine A3 (A2 ?_)
  refine A5 rfl rfl rfl rfl rfl ?_
  refine B9 rfl rfl rfl rfl rfl ?_
  refine A4 ?_
  refine C8 ?_
  exact K1 [0] v (trivial) rfl (by rfl) (N1 rfl (C5 rfl (by rfl)))
theorem Ag8 (l : List THeld) (n : Int) (hl : l.length ≤ 1048576) : FSpec Tryz.prog 206 [AV.list 5 (l.map THeld.cs), AV.int n] (AV.list 5 ((lessH l n).map THeld.cs)) :=
  Q7 (AW6 l n hl) fun x _ => M6 (List.mem_singleton.2 rfl) J0
theorem put_csH (l : List THeld) (k : Nat) (x : THeld) : (l.take k ++ x :: l.drop k).map THeld.cs = [] ++ (l.take (k : Int).toNat).map THeld.cs ++ [x.cs] ++ ([] ++ (l.drop (k : Int).toNat).map THeld.cs) := by simp
theorem AU2 (l : List THeld) (h : THeld) (hs : l.Pairwise fun a b => a.Txn < b.Txn) (hl : l.length ≤ 1048576) : GSpec Tryz.prog 204 [AV.list 5 (l.map THeld.cs), AV.agg h.cs] [] (fun _ : Value => True) (fun v => [.arr v 45 5 ((insH h l).map THeld.cs)]) (fun v => AV.is v) := by
 refine H5 Tryz.func204 rfl Tryz.ntmps204 rfl ?_
 refine A3 (A2 ?_)
 refine M3 rfl rfl rfl rfl (A0 rfl) ?_
 intro b3
 refine A1 rfl rfl rfl (C3 rfl K5) ?_
 refine A4 (A3 (A2 ?_))
 refine A5 rfl rfl rfl rfl rfl ?_
 refine A1 rfl rfl rfl (G9 rfl C9 (A0 rfl)) ?_
 refine B9 rfl rfl rfl rfl rfl ?_
 refine A4 (A3 (D7 ?_))
 refine J9 [(0, _), (3, _), (4, _)] _ (fun (k : Nat) => k ≤ l.length ∧ ∀ i y, k ≤ i → l[i]? = some y → h.Txn < y.Txn) (fun (k : Nat) => []) (fun (k : Nat) => [(5, AV.int k)]) (fun (k : Nat) => k) (l.length) ?_ (J8 ⟨congrArg (fun z => some (AV.int z)) (by rw [A6]), rfl, rfl, rfl, trivial⟩) ?_
 ·exact ⟨Nat.le_refl _, fun i y h1 h2 => by (have := (List.getElem?_eq_some_iff.1 h2).1; omega)⟩
 intro k hinv
 obtain ⟨y, hy0⟩ : ∃ y : THeld, 0 < k → l[k - 1]? = some y := by (by_cases h9 : 0 < k; (have h8 := hinv.1; exact ⟨_, fun _ => List.getElem?_eq_getElem (show k - 1 < l.length by omega)⟩); exact ⟨h, fun h8 => absurd h8 h9⟩)
 have hk1 : 0 < k → ((k : Int) - 1).toNat = k - 1 := fun _ => by omega
 refine A3 (A3 ?_)
 refine K3 (by kernel_rfl) (by kernel_rfl) rfl ?_
 refine B5 rfl rfl (C6 rfl (A0 rfl)) ?_
 refine B5 rfl rfl (P8 rfl (A0 rfl) C4) ?_
 refine B5 rfl rfl (C6 rfl (A0 rfl)) ?_
 refine E1 rfl (C2 rfl rfl rfl) (fun hc => C6 rfl (A0 rfl)) ?_
 refine E1 rfl (C2 rfl rfl rfl) (fun hc => C6 rfl (A0 rfl)) ?_
 refine E1 rfl (C2 rfl rfl rfl) (fun hc => Q0 rfl (B0 rfl hc) C4 (by first | omega | ((try simp only [A6, A7, B2, B7, A8, szR] at *); omega) | (have hc2 := hc; simp only [Bool.and_eq_true, Bool.or_eq_true, Bool.or_eq_false_iff, Bool.and_eq_false_iff, Bool.not_eq_true', Bool.not_eq_false', decide_eq_true_eq, decide_eq_false_iff_not, beq_iff_eq, bne_iff_ne, A6, A7] at hc2; omega))) ?_
 refine E1 rfl (C2 rfl rfl rfl) (fun hc => AE2 rfl C9 D3 (B0 rfl hc) (B0 rfl hc) (by have := of_decide_eq_true hc; have := hinv.1; omega) (by have h9 := of_decide_eq_true hc; rw [hk1 (by omega), List.getElem?_map, hy0 (by omega)]; rfl)) ?_
 refine E1 rfl (C2 rfl rfl rfl) (fun hc => W7 rfl F1 rfl C0 (B0 rfl hc) rfl) ?_
 refine E1 rfl (C2 rfl rfl rfl) (fun hc => N6 rfl (B0 rfl hc) D0 rfl) ?_
 refine E1 rfl (C2 rfl rfl rfl) (fun hc => B3 0 rfl F1 rfl C0 (A0 rfl) rfl) ?_
 refine E1 rfl (C2 rfl rfl rfl) (fun hc => B1 0 rfl (B0 rfl hc) rfl D0 rfl) ?_
 refine E1 rfl (C2 rfl rfl rfl) (fun hc => P8 rfl (B0 rfl hc) (B0 rfl hc)) ?_
 refine B5 rfl rfl (I6 rfl (A0 rfl) (G4 rfl)) ?_
 refine O1 ?_
 refine C7 (A0 rfl) ?_ ?_
 ·intro h21
  have hkt : 0 < k ∧ h.Txn < y.Txn := by simpa using h21
  refine D2 (D7 (A2 ?_))
  refine A5 rfl rfl rfl rfl rfl ?_
  refine A1 rfl rfl rfl (Q0 rfl (A0 rfl) C4 (by first | omega | (simp only [A6, A7, B2, B7, A8, szR] at *; omega))) ?_
  refine B9 rfl rfl rfl rfl rfl ?_
  refine A4 ?_
  refine l5 ?_
  refine L4 k (k - 1) ?_ ?_ (J8 ⟨congrArg (fun z => some (AV.int z)) (by omega), rfl, rfl, rfl, trivial⟩)
  ·exact ⟨by omega, fun i z hi hz => if e : k ≤ i then hinv.2 i z e hz else (by have e2 : i = k - 1 := (by omega); subst e2; rw [hy0 hkt.1] at hz; injection hz with hz; subst hz; exact hkt.2)⟩
  ·omega
 ·intro h21
  have hng : 0 < k → ¬ h.Txn < y.Txn := fun h9 => by simpa [h9] using h21
  have hput : insH h l = l.take k ++ h :: l.drop k := AP5 hinv.1 (fun i x hi hx => by have h7 := hy0 (by omega); have h8 := hng (by omega); rcases Nat.lt_or_ge i (k - 1) with h6 | h6; (have := AD0 (f := THeld.Txn) hs h6 hx h7; omega); (have : i = k - 1 := (by omega); subst this; rw [hx] at h7; injection h7 with h7; subst h7; omega)) (fun x hx => hinv.2 k x (Nat.le_refl _) hx)
  rw [hput]
  refine H3 ?_
  refine A3 (A2 ?_)
  refine S4 rfl rfl rfl rfl C9 D3 ?_
  intro v24
  refine A5 rfl rfl rfl rfl rfl ?_
  refine A5 rfl rfl rfl rfl rfl ?_
  refine A1 rfl rfl rfl (Ad5 rfl C9 D3 (A0 rfl) (A0 rfl) (by omega) (by first | omega | (simp only [A6]; omega))) ?_
  refine L5 (by' := 72) 0 rfl rfl rfl rfl C9 Tryz.type45 rfl rfl rfl rfl rfl rfl (A0 rfl) (A0 rfl) rfl (by simp only [B7, A6, List.length_drop]; omega) ?_
  intro v28_1
  refine B9 rfl rfl rfl rfl rfl ?_
  refine A4 (A3 ?_)
  refine AWP.le (c7 [0] 6 rfl rfl (M6 (G6 (i := 0) rfl) J0) O5) ?_
  refine T3 _ [(1, false), (2, false), (3, false), (5, false), (6, false), (8, false), (0, true), (4, true), (7, true), (9, true)] (by kernel_rfl) (by kernel_rfl) rfl j4 ?_
  refine F9 rfl rfl rfl (fun ext => C6 rfl (A0 rfl)) ?_
  refine F9 rfl rfl rfl (fun ext => C6 rfl (A0 rfl)) ?_
  refine F9 rfl rfl rfl (fun ext => y8 rfl C9 D3 (A0 rfl) (A0 rfl) (by omega) (by first | omega | (simp only [A6]; omega))) ?_
  refine F9 rfl rfl rfl (fun ext => F2 0 rfl (A0 rfl) rfl I0 D3 rfl) ?_
  refine F9 rfl rfl rfl (fun ext => L9 rfl C9 D3 Tryz.zeroValue45 rfl rfl rfl rfl (E0 (A0 rfl) (E2 _) H6) rfl rfl) ?_
  refine F9 rfl rfl rfl (fun ext => C6 rfl (A0 rfl)) ?_
  refine U1 rfl rfl rfl (a6 rfl C9 D3) (fun a _ => (by first | exact F8 rfl | exact F8 (List.append_assoc _ _ _) | exact J5)) ?_
  intro v29 _
  refine U1 rfl rfl rfl (P7 (by' := 72) 1 rfl C9 Tryz.type45 rfl rfl rfl rfl rfl rfl (A0 rfl) (A0 rfl) rfl (by simp only [B7, List.nil_append, J1, A7, List.length_drop, B2, A6, A8]; omega)) (fun a _ => (by first | exact F8 rfl | exact F8 (List.append_assoc _ _ _) | exact J5)) ?_
  intro v33_2 _
  refine U1 rfl rfl rfl (P7 (by' := 72) 1 rfl C9 Tryz.type45 rfl rfl rfl rfl rfl rfl (A0 rfl) (A0 rfl) rfl (by simp only [B7, List.nil_append, J1, A7, List.length_drop, B2, A6, A8]; omega)) (fun a _ => (by first | exact F8 rfl | exact F8 (List.append_assoc _ _ _) | exact J5)) ?_
  intro v36_3 _
  refine U1 rfl rfl rfl (P7 (by' := 72) 1 rfl C9 Tryz.type45 rfl rfl rfl rfl rfl rfl (A0 rfl) (A0 rfl) rfl (by simp only [B7, List.nil_append, J1, A7, List.length_drop, B2, A6, A8]; omega)) (fun a _ => (by first | exact F8 rfl | exact F8 (List.append_assoc _ _ _) | exact J5)) ?_
  intro v38_4 _
  refine i3 ?_
  refine B9 rfl rfl rfl rfl rfl ?_
  refine A4 ?_
  refine C8 ?_
  exact K1 [1] v38_4 (trivial) rfl (by first | rfl | exact congrArg (fun z => [Own.arr _ 45 5 z]) (put_csH _ _ _)) (N1 rfl (C5 rfl (by rfl)))
theorem Ao6 (l : List THeld) (h : THeld) (hs : l.Pairwise fun a b => a.Txn < b.Txn) (hl : l.length ≤ 1048576) : FSpec Tryz.prog 204 [AV.list 5 (l.map THeld.cs), AV.agg h.cs] (AV.list 5 ((insH h l).map THeld.cs)) :=
  Q7 (AU2 l h hs hl) fun x _ => M6 (List.mem_singleton.2 rfl) J0
theorem put_csT (l : List TTold) (k : Nat) (x : TTold) : (l.take k ++ x :: l.drop k).map TTold.cs = [] ++ (l.take (k : Int).toNat).map TTold.cs ++ [x.cs] ++ ([] ++ (l.drop (k : Int).toNat).map TTold.cs) := by simp
theorem AG7 (l : List TTold) (h : TTold) (hs : l.Pairwise fun a b => a.Txn < b.Txn) (hl : l.length ≤ 1048576) : GSpec Tryz.prog 207 [AV.list 3 (l.map TTold.cs), AV.agg h.cs] [] (fun _ : Value => True) (fun v => [.arr v 39 3 ((insT h l).map TTold.cs)]) (fun v => AV.is v) := by
 refine H5 Tryz.func207 rfl Tryz.ntmps207 rfl ?_
 refine A3 (A2 ?_)
 refine M3 rfl rfl rfl rfl (A0 rfl) ?_
 intro b3
 refine A1 rfl rfl rfl (C3 rfl K5) ?_
 refine A4 (A3 (A2 ?_))
 refine A5 rfl rfl rfl rfl rfl ?_
 refine A1 rfl rfl rfl (G9 rfl E3 (A0 rfl)) ?_
 refine B9 rfl rfl rfl rfl rfl ?_
 refine A4 (A3 (D7 ?_))
 refine J9 [(0, _), (3, _), (4, _)] _ (fun (k : Nat) => k ≤ l.length ∧ ∀ i y, k ≤ i → l[i]? = some y → h.Txn < y.Txn) (fun (k : Nat) => []) (fun (k : Nat) => [(5, AV.int k)]) (fun (k : Nat) => k) (l.length) ?_ (J8 ⟨congrArg (fun z => some (AV.int z)) (by rw [A6]), rfl, rfl, rfl, trivial⟩) ?_
 ·exact ⟨Nat.le_refl _, fun i y h1 h2 => by (have := (List.getElem?_eq_some_iff.1 h2).1; omega)⟩
 intro k hinv
 obtain ⟨y, hy0⟩ : ∃ y : TTold, 0 < k → l[k - 1]? = some y := by (by_cases h9 : 0 < k; (have h8 := hinv.1; exact ⟨_, fun _ => List.getElem?_eq_getElem (show k - 1 < l.length by omega)⟩); exact ⟨h, fun h8 => absurd h8 h9⟩)
 have hk1 : 0 < k → ((k : Int) - 1).toNat = k - 1 := fun _ => by omega
 refine A3 (A3 ?_)
 refine K3 (by kernel_rfl) (by kernel_rfl) rfl ?_
 refine B5 rfl rfl (C6 rfl (A0 rfl)) ?_
 refine B5 rfl rfl (P8 rfl (A0 rfl) C4) ?_
 refine B5 rfl rfl (C6 rfl (A0 rfl)) ?_
 refine E1 rfl (C2 rfl rfl rfl) (fun hc => C6 rfl (A0 rfl)) ?_
 refine E1 rfl (C2 rfl rfl rfl) (fun hc => C6 rfl (A0 rfl)) ?_
 refine E1 rfl (C2 rfl rfl rfl) (fun hc => Q0 rfl (B0 rfl hc) C4 (by first | omega | ((try simp only [A6, A7, B2, B7, A8, szR] at *); omega) | (have hc2 := hc; simp only [Bool.and_eq_true, Bool.or_eq_true, Bool.or_eq_false_iff, Bool.and_eq_false_iff, Bool.not_eq_true', Bool.not_eq_false', decide_eq_true_eq, decide_eq_false_iff_not, beq_iff_eq, bne_iff_ne, A6, A7] at hc2; omega))) ?_
 refine E1 rfl (C2 rfl rfl rfl) (fun hc => AE2 rfl E3 H2 (B0 rfl hc) (B0 rfl hc) (by have := of_decide_eq_true hc; have := hinv.1; omega) (by have h9 := of_decide_eq_true hc; rw [hk1 (by omega), List.getElem?_map, hy0 (by omega)]; rfl)) ?_
 refine E1 rfl (C2 rfl rfl rfl) (fun hc => W7 rfl K0 rfl C0 (B0 rfl hc) rfl) ?_
 refine E1 rfl (C2 rfl rfl rfl) (fun hc => N6 rfl (B0 rfl hc) D0 rfl) ?_
 refine E1 rfl (C2 rfl rfl rfl) (fun hc => B3 0 rfl K0 rfl C0 (A0 rfl) rfl) ?_
 refine E1 rfl (C2 rfl rfl rfl) (fun hc => B1 0 rfl (B0 rfl hc) rfl D0 rfl) ?_
 refine E1 rfl (C2 rfl rfl rfl) (fun hc => P8 rfl (B0 rfl hc) (B0 rfl hc)) ?_
 refine B5 rfl rfl (I6 rfl (A0 rfl) (G4 rfl)) ?_
 refine O1 ?_
 refine C7 (A0 rfl) ?_ ?_
 ·intro h21
  have hkt : 0 < k ∧ h.Txn < y.Txn := by simpa using h21
  refine D2 (D7 (A2 ?_))
  refine A5 rfl rfl rfl rfl rfl ?_
  refine A1 rfl rfl rfl (Q0 rfl (A0 rfl) C4 (by first | omega | (simp only [A6, A7, B2, B7, A8, szR] at *; omega))) ?_
  refine B9 rfl rfl rfl rfl rfl ?_
  refine A4 ?_
  refine l5 ?_
  refine L4 k (k - 1) ?_ ?_ (J8 ⟨congrArg (fun z => some (AV.int z)) (by omega), rfl, rfl, rfl, trivial⟩)
  ·exact ⟨by omega, fun i z hi hz => if e : k ≤ i then hinv.2 i z e hz else (by have e2 : i = k - 1 := (by omega); subst e2; rw [hy0 hkt.1] at hz; injection hz with hz; subst hz; exact hkt.2)⟩
  ·omega
 ·intro h21
  have hng : 0 < k → ¬ h.Txn < y.Txn := fun h9 => by simpa [h9] using h21
  have hput : insT h l = l.take k ++ h :: l.drop k := AP6 hinv.1 (fun i x hi hx => by have h7 := hy0 (by omega); have h8 := hng (by omega); rcases Nat.lt_or_ge i (k - 1) with h6 | h6; (have := AD0 (f := TTold.Txn) hs h6 hx h7; omega); (have : i = k - 1 := (by omega); subst this; rw [hx] at h7; injection h7 with h7; subst h7; omega)) (fun x hx => hinv.2 k x (Nat.le_refl _) hx)
  rw [hput]
  refine H3 ?_
  refine A3 (A2 ?_)
  refine S4 rfl rfl rfl rfl E3 H2 ?_
  intro v24
  refine A5 rfl rfl rfl rfl rfl ?_
  refine A5 rfl rfl rfl rfl rfl ?_
  refine A1 rfl rfl rfl (Ad5 rfl E3 H2 (A0 rfl) (A0 rfl) (by omega) (by first | omega | (simp only [A6]; omega))) ?_
  refine L5 (by' := 24) 0 rfl rfl rfl rfl E3 Tryz.type39 rfl rfl rfl rfl rfl rfl (A0 rfl) (A0 rfl) rfl (by simp only [B7, A6, List.length_drop]; omega) ?_
  intro v28_1
  refine B9 rfl rfl rfl rfl rfl ?_
  refine A4 (A3 ?_)
  refine AWP.le (c7 [0] 6 rfl rfl (M6 (G6 (i := 0) rfl) J0) O5) ?_
  refine T3 _ [(1, false), (2, false), (3, false), (5, false), (6, false), (8, false), (0, true), (4, true), (7, true), (9, true)] (by kernel_rfl) (by kernel_rfl) rfl j4 ?_
  refine F9 rfl rfl rfl (fun ext => C6 rfl (A0 rfl)) ?_
  refine F9 rfl rfl rfl (fun ext => C6 rfl (A0 rfl)) ?_
  refine F9 rfl rfl rfl (fun ext => y8 rfl E3 H2 (A0 rfl) (A0 rfl) (by omega) (by first | omega | (simp only [A6]; omega))) ?_
  refine F9 rfl rfl rfl (fun ext => F2 0 rfl (A0 rfl) rfl V2 H2 rfl) ?_
  refine F9 rfl rfl rfl (fun ext => L9 rfl E3 H2 Tryz.zeroValue39 rfl rfl rfl rfl (E0 (A0 rfl) (E2 _) H6) rfl rfl) ?_
  refine F9 rfl rfl rfl (fun ext => C6 rfl (A0 rfl)) ?_
  refine U1 rfl rfl rfl (a6 rfl E3 H2) (fun a _ => (by first | exact F8 rfl | exact F8 (List.append_assoc _ _ _) | exact J5)) ?_
  intro v29 _
  refine U1 rfl rfl rfl (P7 (by' := 24) 1 rfl E3 Tryz.type39 rfl rfl rfl rfl rfl rfl (A0 rfl) (A0 rfl) rfl (by simp only [B7, List.nil_append, J1, A7, List.length_drop, B2, A6, A8]; omega)) (fun a _ => (by first | exact F8 rfl | exact F8 (List.append_assoc _ _ _) | exact J5)) ?_
  intro v33_2 _
  refine U1 rfl rfl rfl (P7 (by' := 24) 1 rfl E3 Tryz.type39 rfl rfl rfl rfl rfl rfl (A0 rfl) (A0 rfl) rfl (by simp only [B7, List.nil_append, J1, A7, List.length_drop, B2, A6, A8]; omega)) (fun a _ => (by first | exact F8 rfl | exact F8 (List.append_assoc _ _ _) | exact J5)) ?_
  intro v36_3 _
  refine U1 rfl rfl rfl (P7 (by' := 24) 1 rfl E3 Tryz.type39 rfl rfl rfl rfl rfl rfl (A0 rfl) (A0 rfl) rfl (by simp only [B7, List.nil_append, J1, A7, List.length_drop, B2, A6, A8]; omega)) (fun a _ => (by first | exact F8 rfl | exact F8 (List.append_assoc _ _ _) | exact J5)) ?_
  intro v38_4 _
  refine i3 ?_
  refine B9 rfl rfl rfl rfl rfl ?_
  refine A4 ?_
  refine C8 ?_
  exact K1 [1] v38_4 (trivial) rfl (by first | rfl | exact congrArg (fun z => [Own.arr _ 39 3 z]) (put_csT _ _ _)) (N1 rfl (C5 rfl (by rfl)))
theorem AQ1 (l : List TTold) (h : TTold) (hs : l.Pairwise fun a b => a.Txn < b.Txn) (hl : l.length ≤ 1048576) : FSpec Tryz.prog 207 [AV.list 3 (l.map TTold.cs), AV.agg h.cs] (AV.list 3 ((insT h l).map TTold.cs)) :=
  Q7 (AG7 l h hs hl) fun x _ => M6 (List.mem_singleton.2 rfl) J0
theorem AU3 (l : List TCell) (w : List TWrite) (t : Int) (ho : CellsOk l) (hs : sizeL TCell.size l ≤ 1048576) (hw : sizeL TWrite.size w ≤ 1048576) (ht1 : 1 ≤ t) : FSpec Tryz.prog 205 [AV.list 2 (l.map TCell.cs), AV.list 3 (w.map TWrite.cs), AV.int t] (AV.tup [AV.list 2 ((putP l w t).1.map TCell.cs), AV.bool (putP l w t).2]) :=
  Q7 (BB0 l w t ho hs hw ht1) fun x h => AM9 (G8 (k5 TCell.lcM h 0 rfl fun o ho => List.mem_cons_of_mem _ ho) (G8 L6 T8))
theorem AQ2 (l : List Str) (hl : l.length ≤ 4194304) : FSpec Tryz.prog 169 [strs l] (strs l) :=
  Q7 (AC2 l hl) fun x _ => M6 (List.mem_singleton.2 rfl) J0
theorem AQ3 (a b : Int) : FSpec Tryz.prog 130 [AV.int a, AV.int b] (AV.int (if a < b then b else a)) := by
 refine E7 Tryz.func130 rfl Tryz.ntmps130 rfl ?_
 refine A3 (A2 ?_)
 refine A1 rfl rfl rfl (C3 rfl C4) ?_
 refine A4 (A3 (A3 (A2 ?_)))
 refine A5 rfl rfl rfl rfl rfl ?_
 refine A5 rfl rfl rfl rfl rfl ?_
 refine A1 rfl rfl rfl (P8 rfl (A0 rfl) (A0 rfl)) ?_
 refine A4 ?_
 refine C7 (A0 rfl) ?_ ?_
 ·intro h7
  have k7 := of_decide_eq_true h7; try simp only [A6] at k7
  have h9 := of_decide_eq_true h7
  refine A3 (A2 ?_)
  refine A5 rfl rfl rfl rfl rfl ?_
  refine B9 rfl rfl rfl rfl rfl ?_
  refine A4 ?_
  refine C8 ?_
  exact H9 rfl (C5 rfl (by exact congrArg AV.int (by split <;> omega)))
 ·intro h7
  have k7 := of_decide_eq_false h7; try simp only [A6] at k7
  have h9 := of_decide_eq_false h7
  refine D2 (A3 (A2 ?_))
  refine A5 rfl rfl rfl rfl rfl ?_
  refine B9 rfl rfl rfl rfl rfl ?_
  refine A4 ?_
  refine C8 ?_
  exact H9 rfl (C5 rfl (by exact congrArg AV.int (by split <;> omega)))
theorem As0 (s : TState) (r : TRec) (g : SO s) (hs : s.size ≤ 300000) (hrs : r.size ≤ 300000) : FSpec Tryz.prog 103 [AV.agg s.cs, AV.agg r.cs] (AV.tup [AV.agg (applyS s r).1.cs, AV.bool (applyS s r).2]) := by
 obtain ⟨hs1, hs2, hs3, hs4, hs5⟩ := R9 hs
 have hgc := g.cells
 have hgh := g.hsort
 have hgt := g.tsort
 have hr2 : r.size = sizeL (fun x : Str => x.length) r.Reads + sizeL TWrite.size r.Writes := rfl
 have hr3 := O2 (f := fun x : Str => x.length) (l := r.Reads)
 have hr4 := O2 (f := TWrite.size) (l := r.Writes)
 have hho := AE9 s.Held r.Txn
 have hto := Ag7 s.Told r.Txn
 obtain ⟨h, hh⟩ : ∃ h, (heldFO s.Held r.Txn).1 = h := ⟨_, rfl⟩
 have hf1 : hasH s.Held r.Txn = true → findH s.Held r.Txn = some h := fun e => by
  rw [← hho] at e
  unfold heldFO at hh e
  cases hf : findH s.Held r.Txn with
  | none => rw [hf] at e; cases e
  | some x => rw [hf] at hh; exact congrArg some hh
 have hf0 : hasH s.Held r.Txn = false → findH s.Held r.Txn = none := fun e => r6.2 e
 have hhs : hasH s.Held r.Txn = true → h.size ≤ 300000 ∧ 1 ≤ h.Time := fun e => by
  obtain ⟨h1, h2⟩ := o4 (hf1 e)
  obtain ⟨i, hi⟩ := List.getElem?_of_mem h1
  exact ⟨(U2 hs2 hi).1, g.times h h1⟩
 have hlen := AG6 s.Held r.Txn
 have hll : (lessH s.Held r.Txn).length ≤ s.Held.length := List.length_filter_le _ _
 refine E7 Tryz.func103 rfl Tryz.ntmps103 rfl ?_
 refine A3 (A2 ?_)
 refine M3 rfl rfl rfl rfl (A0 rfl) ?_
 intro b2
 refine M3 rfl rfl rfl rfl (A0 rfl) ?_
 intro b3
 refine G0 rfl rfl rfl rfl Tryz.zeroValue30 rfl ?_
 intro b4
 refine A1 rfl rfl rfl (C3 rfl F4) ?_
 refine A4 (A3 (A2 ?_))
 refine A1 rfl rfl rfl (F2 2 rfl (A0 rfl) rfl D6 C1 rfl) ?_
 refine A1 rfl rfl rfl (E5 rfl Tryz.call107 rfl (Ai4 s (by omega)) (A9 (A0 rfl) D1)) ?_
 refine G0 rfl rfl rfl rfl Tryz.zeroValue30 rfl ?_
 intro b6
 refine D5 0 rfl rfl rfl (A0 rfl) (A0 rfl) (E2 _) rfl C1 rfl ?_
 refine A4 (A3 (A2 ?_))
 refine A1 rfl rfl rfl (F2 3 rfl (A0 rfl) rfl D6 C1 rfl) ?_
 refine A1 rfl rfl rfl (B3 1 rfl B6 rfl C0 (A0 rfl) rfl) ?_
 refine A1 rfl rfl rfl (B1 2 rfl (A0 rfl) rfl D0 rfl) ?_
 refine A1 rfl rfl rfl (E5 rfl Tryz.call105 rfl (AP9 s r.Txn (by omega)) (A9 (A0 rfl) (A9 (A0 rfl) D1))) ?_
 refine A5 rfl rfl rfl rfl rfl ?_
 refine A1 rfl rfl rfl (F6 rfl (A0 rfl) rfl) ?_
 refine A1 rfl rfl rfl (F6 rfl (A0 rfl) rfl) ?_
 refine G0 rfl rfl rfl rfl Tryz.zeroValue45 rfl ?_
 intro b7
 refine D5 0 rfl rfl rfl (A0 rfl) (A0 rfl) (E2 _) rfl D3 rfl ?_
 refine B9 rfl rfl rfl rfl rfl ?_
 refine A4 (A3 (A2 ?_))
 refine A1 rfl rfl rfl (F2 4 rfl (A0 rfl) rfl D6 C1 rfl) ?_
 refine A1 rfl rfl rfl (B3 1 rfl B6 rfl C0 (A0 rfl) rfl) ?_
 refine A1 rfl rfl rfl (B1 3 rfl (A0 rfl) rfl D0 rfl) ?_
 refine A1 rfl rfl rfl (E5 rfl Tryz.call104 rfl (AQ0 s r.Txn (by omega)) (A9 (A0 rfl) (A9 (A0 rfl) D1))) ?_
 refine A5 rfl rfl rfl rfl rfl ?_
 refine A1 rfl rfl rfl (F6 rfl (A0 rfl) rfl) ?_
 refine A1 rfl rfl rfl (F6 rfl (A0 rfl) rfl) ?_
 refine G0 rfl rfl rfl rfl Tryz.zeroValue39 rfl ?_
 intro b9
 refine D5 0 rfl rfl rfl (A0 rfl) (A0 rfl) (E2 _) rfl H2 rfl ?_
 refine B9 rfl rfl rfl rfl rfl ?_
 refine A4 (A3 (D7 (A3 ?_)))
 rw [hh]
 rw [hho, hto]
 refine A2 ?_
 refine A1 rfl rfl rfl (B3 0 rfl B6 rfl C0 (A0 rfl) rfl) ?_
 refine A1 rfl rfl rfl (B1 4 rfl (A0 rfl) rfl D0 rfl) ?_
 refine A1 rfl rfl rfl (M9 rfl (A0 rfl) C4) ?_
 refine B9 rfl rfl rfl rfl rfl ?_
 refine A4 ?_
 refine C7 (A0 rfl) ?_ ?_
 ·intro h29
  have k29 := L3 h29; try simp only [A6] at k29
  have hk : r.Kind = 4 := by simpa using h29
  have he : applyS s r = (⟨r.Time, s.Cells, s.Held, s.Told⟩, decide (s.Floor < r.Time)) := by (unfold applyS; rw [if_pos hk])
  rw [he]
  refine A3 (A2 ?_)
  refine A1 rfl rfl rfl (B3 2 rfl B6 rfl C0 (A0 rfl) rfl) ?_
  refine A1 rfl rfl rfl (B1 4 rfl (A0 rfl) rfl D0 rfl) ?_
  refine A1 rfl rfl rfl (B3 0 rfl B8 rfl C0 (A0 rfl) rfl) ?_
  refine I4 2 rfl rfl rfl (A0 rfl) (A0 rfl) (K9 _ _) rfl C0 rfl ?_
  refine A4 (A3 ?_)
  refine AWP.le (I8 [2, 3, 3] rfl) ?_
  refine V7 _ 7 (.pure 0 (.pure 1 (.pure 2 (.pure 3 (.pure 4 (.pure 5 (.e1 6 .nil))))))) (by kernel_rfl) (by kernel_rfl) rfl (W9 3) ?_
  refine J2 rfl rfl rfl (fun ext => F2 0 rfl (A0 rfl) rfl D6 C1 rfl) ?_
  refine J2 rfl rfl rfl (fun ext => B3 2 rfl B6 rfl C0 (A0 rfl) rfl) ?_
  refine J2 rfl rfl rfl (fun ext => B1 1 rfl (A0 rfl) rfl D0 rfl) ?_
  refine J2 rfl rfl rfl (fun ext => B3 0 rfl B8 rfl C0 (A0 rfl) rfl) ?_
  refine J2 rfl rfl rfl (fun ext => B1 2 rfl (A0 rfl) rfl D0 rfl) ?_
  refine J2 rfl rfl rfl (fun ext => P8 rfl (A0 rfl) (A0 rfl)) ?_
  refine X0 ?_
  refine AY1 rfl rfl rfl (w6 5 rfl rfl (A0 rfl) (A0 rfl) (E2 _) rfl C1 rfl) (fun a _ => (by first | exact F8 rfl | exact F8 (List.append_assoc _ _ _) | exact J5)) ?_
  intro _ _
  refine d4 ?_
  refine B9 rfl rfl rfl rfl rfl ?_
  refine A4 ?_
  refine C8 ?_
  exact X2 rfl (by decide) (E6 (J6 (ys := _) 5 rfl rfl D6 C1 rfl) (E6 (C5 rfl (by rfl)) K8))
 ·intro h29
  have k29 := L2 h29; try simp only [A6] at k29
  have hk4 : r.Kind ≠ 4 := by simpa using h29
  refine A3 (A2 ?_)
  refine A5 rfl rfl rfl rfl rfl ?_
  refine B9 rfl rfl rfl rfl rfl ?_
  refine A4 ?_
  refine C7 (A0 rfl) ?_ ?_
  ·intro h42
   have he : applyS s r = (s, false) := by (unfold applyS; rw [if_neg hk4, if_pos h42])
   rw [he]
   refine A3 (A2 ?_)
   refine A1 rfl rfl rfl (F2 2 rfl (A0 rfl) rfl D6 C1 rfl) ?_
   refine D5 3 rfl rfl rfl (A0 rfl) (A0 rfl) (E2 _) rfl C1 rfl ?_
   refine A1 rfl rfl rfl (C3 rfl F4) ?_
   refine A4 ?_
   refine C8 ?_
   exact X2 rfl (by decide) (E6 (J6 (ys := _) 3 rfl rfl D6 C1 rfl) (E6 (C5 rfl (by rfl)) K8))
  ·intro h42
   have hT : hasT s.Told r.Txn = false := h42
   have hnT : ¬ hasT s.Told r.Txn = true := by (rw [hT]; decide)
   refine A3 (A2 ?_)
   refine A1 rfl rfl rfl (B3 0 rfl B6 rfl C0 (A0 rfl) rfl) ?_
   refine A1 rfl rfl rfl (B1 4 rfl (A0 rfl) rfl D0 rfl) ?_
   refine A1 rfl rfl rfl (M9 rfl (A0 rfl) C4) ?_
   refine B9 rfl rfl rfl rfl rfl ?_
   refine A4 ?_
   refine C7 (A0 rfl) ?_ ?_
   ·intro h45
    have k45 := L3 h45; try simp only [A6] at k45
    have hk1 : r.Kind = 1 := by simpa using h45
    have he : applyS s r = (⟨r.Time, s.Cells, insH (hOf r) s.Held, s.Told⟩, (!hasH s.Held r.Txn && decide (s.Floor < r.Time)) && fits s r.Reads r.Writes) := by (unfold applyS; rw [if_neg hk4, if_neg hnT, if_pos hk1])
    rw [he]
    refine A3 ?_
    refine T3 _ [(0, false), (1, false), (2, false), (3, false), (4, false), (5, false), (6, false), (7, false), (8, false), (9, false), (10, false), (12, false), (13, false), (11, true), (14, true), (15, false)] (by kernel_rfl) (by kernel_rfl) rfl j4 ?_
    refine F9 rfl rfl rfl (fun ext => B3 2 rfl B8 rfl E9 (A0 rfl) rfl) ?_
    refine F9 rfl rfl rfl (fun ext => B1 2 rfl (A0 rfl) rfl I3 rfl) ?_
    refine F9 rfl rfl rfl (fun ext => B3 1 rfl B6 rfl C0 (A0 rfl) rfl) ?_
    refine F9 rfl rfl rfl (fun ext => B1 4 rfl (A0 rfl) rfl D0 rfl) ?_
    refine F9 rfl rfl rfl (fun ext => B3 2 rfl B6 rfl C0 (A0 rfl) rfl) ?_
    refine F9 rfl rfl rfl (fun ext => B1 4 rfl (A0 rfl) rfl D0 rfl) ?_
    refine F9 rfl rfl rfl (fun ext => B3 3 rfl B6 rfl C0 (A0 rfl) rfl) ?_
    refine F9 rfl rfl rfl (fun ext => B1 4 rfl (A0 rfl) rfl D0 rfl) ?_
    refine F9 rfl rfl rfl (fun ext => B3 4 rfl B6 rfl L7 (A0 rfl) rfl) ?_
    refine F9 rfl rfl rfl (fun ext => B1 4 rfl (A0 rfl) rfl N9 rfl) ?_
    refine F9 rfl rfl rfl (fun ext => E5 rfl Tryz.call169 rfl (AQ2 _ (by omega)) (A9 (A0 rfl) D1)) ?_
    refine F9 rfl rfl rfl (fun ext => B3 5 rfl B6 rfl K2 (A0 rfl) rfl) ?_
    refine F9 rfl rfl rfl (fun ext => B1 4 rfl (A0 rfl) rfl L8 rfl) ?_
    refine U1 rfl rfl rfl (a6 rfl F3 H7) (fun a _ => (by first | exact F8 rfl | exact F8 (List.append_assoc _ _ _) | exact J5)) ?_
    intro v60 _
    refine U1 rfl rfl rfl (Ag6 [6] (fun _ => rfl) (fun _ => M6 (G6 (i := 0) rfl) J0) (fun _ => Ag0) (P7 (by' := 40) 6 rfl F3 Tryz.type77 rfl rfl rfl rfl rfl rfl (A0 rfl) (A0 rfl) rfl (by simp only [B7, A6]; omega))) (fun a _ => (by first | exact F8 rfl | exact F8 (List.append_assoc _ _ _) | exact J5)) ?_
    intro v63_1 _
    refine F9 rfl rfl rfl (fun ext => N0 (places := #[(0, 1), (1, 1), (2, 1), (3, 1), (4, 1)]) rfl F1 Tryz.zeroValue45 (fun w => by kernel_rfl) rfl (E0 (A0 rfl) (K9 _ _) (E0 (A0 rfl) (K9 _ _) (E0 (A0 rfl) (K9 _ _) (E0 (A0 rfl) (S2 _ _) (E0 (A0 rfl) (S2 _ _) H6))))) rfl) ?_
    refine i3 ?_
    refine A1 rfl rfl rfl (E5 rfl Tryz.call204 rfl (Ao6 s.Held (hOf r) hgh (by omega)) (A9 (A0 rfl) (A9 (A0 rfl) D1))) ?_
    refine A1 rfl rfl rfl (B3 2 rfl B8 rfl E9 (A0 rfl) rfl) ?_
    refine I4 2 rfl rfl rfl (A0 rfl) (A0 rfl) (S2 _ _) rfl E9 rfl ?_
    refine A4 (A3 (A2 ?_))
    refine A1 rfl rfl rfl (B3 2 rfl B6 rfl C0 (A0 rfl) rfl) ?_
    refine A1 rfl rfl rfl (B1 4 rfl (A0 rfl) rfl D0 rfl) ?_
    refine A1 rfl rfl rfl (B3 0 rfl B8 rfl C0 (A0 rfl) rfl) ?_
    refine I4 2 rfl rfl rfl (A0 rfl) (A0 rfl) (K9 _ _) rfl C0 rfl ?_
    refine A4 (A3 ?_)
    refine AWP.le (I8 [2, 3, 3] rfl) ?_
    refine V7 _ 19 (.pure 0 (.pure 1 (.pure 2 (.pure 3 (.pure 4 (.pure 5 (.pure 6 (.pure 7 (.pure 8 (.pure 9 (.pure 10 (.pure 11 (.pure 12 (.pure 13 (.pure 14 (.pure 15 (.pure 16 (.pure 17 (.e1 18 .nil))))))))))))))))))) (by kernel_rfl) (by kernel_rfl) rfl (W9 3) ?_
    refine J2 rfl rfl rfl (fun ext => F2 0 rfl (A0 rfl) rfl D6 C1 rfl) ?_
    refine J2 rfl rfl rfl (fun ext => C6 rfl (A0 rfl)) ?_
    refine J2 rfl rfl rfl (fun ext => M2 rfl (A0 rfl)) ?_
    refine J2 rfl rfl rfl (fun ext => C6 rfl (A0 rfl)) ?_
    refine V4 rfl rfl (C2 rfl rfl rfl) (fun hc ext => B3 2 rfl B6 rfl C0 (A0 rfl) rfl) ?_
    refine V4 rfl rfl (C2 rfl rfl rfl) (fun hc ext => B1 1 rfl (B0 rfl hc) rfl D0 rfl) ?_
    refine V4 rfl rfl (C2 rfl rfl rfl) (fun hc ext => B3 0 rfl B8 rfl C0 (A0 rfl) rfl) ?_
    refine V4 rfl rfl (C2 rfl rfl rfl) (fun hc ext => B1 2 rfl (B0 rfl hc) rfl D0 rfl) ?_
    refine V4 rfl rfl (C2 rfl rfl rfl) (fun hc ext => P8 rfl (B0 rfl hc) (B0 rfl hc)) ?_
    refine J2 rfl rfl rfl (fun ext => I6 rfl (A0 rfl) (G4 rfl)) ?_
    refine J2 rfl rfl rfl (fun ext => C6 rfl (A0 rfl)) ?_
    refine V4 rfl rfl (C2 rfl rfl rfl) (fun hc ext => F2 2 rfl (A0 rfl) rfl D6 C1 rfl) ?_
    refine V4 rfl rfl (C2 rfl rfl rfl) (fun hc ext => B3 4 rfl B6 rfl L7 (A0 rfl) rfl) ?_
    refine V4 rfl rfl (C2 rfl rfl rfl) (fun hc ext => B1 1 rfl (B0 rfl hc) rfl N9 rfl) ?_
    refine V4 rfl rfl (C2 rfl rfl rfl) (fun hc ext => B3 5 rfl B6 rfl K2 (A0 rfl) rfl) ?_
    refine V4 rfl rfl (C2 rfl rfl rfl) (fun hc ext => B1 1 rfl (B0 rfl hc) rfl L8 rfl) ?_
    refine V4 rfl rfl (C2 rfl rfl rfl) (fun hc ext => E5 rfl Tryz.call126 rfl (Aa2 s r.Reads r.Writes (by omega) (by omega)) (A9 (B0 rfl hc) (A9 (B0 rfl hc) (A9 (B0 rfl hc) D1)))) ?_
    refine J2 rfl rfl rfl (fun ext => I6 rfl (A0 rfl) (G4 rfl)) ?_
    refine X0 ?_
    refine AY1 rfl rfl rfl (w6 5 rfl rfl (A0 rfl) (A0 rfl) (E2 _) rfl C1 rfl) (fun a _ => (by first | exact F8 rfl | exact F8 (List.append_assoc _ _ _) | exact J5)) ?_
    intro _ _
    refine d4 ?_
    refine B9 rfl rfl rfl rfl rfl ?_
    refine A4 ?_
    refine C8 ?_
    exact X2 rfl (by decide) (E6 (J6 (ys := _) 5 rfl rfl D6 C1 rfl) (E6 (C5 rfl (by rfl)) K8))
   ·intro h45
    have k45 := L2 h45; try simp only [A6] at k45
    have hk1 : r.Kind ≠ 1 := by simpa using h45
    have hap : applyS s r = (if r.Yes = true then (match findH s.Held r.Txn with | none => (s, false) | some h => if r.Time < h.Time then (s, false) else if (putP s.Cells h.Writes r.Time).2 = true then (doneS s r (if s.Floor < r.Time then r.Time else s.Floor) (putP s.Cells h.Writes r.Time).1, true) else (s, false)) else (doneS s r s.Floor s.Cells, true)) := by (unfold applyS; rw [if_neg hk4, if_neg hnT, if_neg hk1]; rfl)
    refine A3 (A2 ?_)
    refine A1 rfl rfl rfl (B3 6 rfl B6 rfl J4 (A0 rfl) rfl) ?_
    refine A1 rfl rfl rfl (B1 4 rfl (A0 rfl) rfl L0 rfl) ?_
    refine B9 rfl rfl rfl rfl rfl ?_
    refine A4 ?_
    refine C7 (A0 rfl) ?_ ?_
    ·intro h88
     refine A3 (A3 (A2 ?_))
     refine A5 rfl rfl rfl rfl rfl ?_
     refine A1 rfl rfl rfl (M2 rfl (A0 rfl)) ?_
     refine A5 rfl rfl rfl rfl rfl ?_
     refine B4 rfl rfl (D4 rfl rfl rfl) (fun hc => B3 1 rfl F1 rfl C0 (A0 rfl) rfl) ?_
     refine B4 rfl rfl (D4 rfl rfl rfl) (fun hc => B1 1 rfl (B0 rfl hc) rfl D0 rfl) ?_
     refine B4 rfl rfl (D4 rfl rfl rfl) (fun hc => B3 2 rfl B6 rfl C0 (A0 rfl) rfl) ?_
     refine B4 rfl rfl (D4 rfl rfl rfl) (fun hc => B1 4 rfl (B0 rfl hc) rfl D0 rfl) ?_
     refine B4 rfl rfl (D4 rfl rfl rfl) (fun hc => P8 rfl (B0 rfl hc) (B0 rfl hc)) ?_
     refine A1 rfl rfl rfl (Q4 rfl (A0 rfl) (G4 rfl)) ?_
     refine A4 ?_
     refine C7 (A0 rfl) ?_ ?_
     ·intro h99
      have he : applyS s r = (s, false) := by (rw [hap, if_pos h88]; cases e : hasH s.Held r.Txn with | false => (rw [hf0 e]) | true => (rw [hf1 e]; dsimp only; rw [if_pos (by rw [e] at h99; simpa using h99)]))
      rw [he]
      refine A3 (A2 ?_)
      refine A1 rfl rfl rfl (F2 2 rfl (A0 rfl) rfl D6 C1 rfl) ?_
      refine D5 3 rfl rfl rfl (A0 rfl) (A0 rfl) (E2 _) rfl C1 rfl ?_
      refine A1 rfl rfl rfl (C3 rfl F4) ?_
      refine A4 ?_
      refine C8 ?_
      exact X2 rfl (by decide) (E6 (J6 (ys := _) 3 rfl rfl D6 C1 rfl) (E6 (C5 rfl (by rfl)) K8))
     ·intro h99
      simp only [Bool.or_eq_false_iff, Bool.not_eq_false', decide_eq_false_iff_not] at h99
      obtain ⟨hhas, hnlt⟩ := h99
      obtain ⟨hz1, hz2⟩ := hhs hhas
      have hz3 : h.size = sizeL (fun x => x.length) h.Reads + sizeL TWrite.size h.Writes := rfl
      refine D2 (A3 (A2 ?_))
      refine A1 rfl rfl rfl (B3 1 rfl B8 rfl M7 (A0 rfl) rfl) ?_
      refine A1 rfl rfl rfl (B1 5 rfl (A0 rfl) rfl P5 rfl) ?_
      refine A1 rfl rfl rfl (B3 4 rfl F1 rfl K2 (A0 rfl) rfl) ?_
      refine A1 rfl rfl rfl (B1 1 rfl (A0 rfl) rfl L8 rfl) ?_
      refine A1 rfl rfl rfl (B3 2 rfl B6 rfl C0 (A0 rfl) rfl) ?_
      refine A1 rfl rfl rfl (B1 4 rfl (A0 rfl) rfl D0 rfl) ?_
      refine A1 rfl rfl rfl (E5 rfl Tryz.call205 rfl (AU3 s.Cells h.Writes r.Time hgc (by omega) (by omega) (by omega)) (A9 (A0 rfl) (A9 (A0 rfl) (A9 (A0 rfl) D1)))) ?_
      refine A5 rfl rfl rfl rfl rfl ?_
      refine A1 rfl rfl rfl (F6 rfl (A0 rfl) rfl) ?_
      refine A1 rfl rfl rfl (F6 rfl (A0 rfl) rfl) ?_
      refine B9 rfl rfl rfl rfl rfl ?_
      refine B9 rfl rfl rfl rfl rfl ?_
      refine A4 (A3 (A3 (A2 ?_)))
      refine A5 rfl rfl rfl rfl rfl ?_
      refine A1 rfl rfl rfl (M2 rfl (A0 rfl)) ?_
      refine A4 ?_
      refine C7 (A0 rfl) ?_ ?_
      ·intro h112
       have he : applyS s r = (s, false) := by (rw [hap, if_pos h88, hf1 hhas]; dsimp only; rw [if_neg (by omega), if_neg (by simpa using h112)])
       rw [he]
       refine A3 (A2 ?_)
       refine A1 rfl rfl rfl (F2 2 rfl (A0 rfl) rfl D6 C1 rfl) ?_
       refine D5 3 rfl rfl rfl (A0 rfl) (A0 rfl) (E2 _) rfl C1 rfl ?_
       refine A1 rfl rfl rfl (C3 rfl F4) ?_
       refine A4 ?_
       refine C8 ?_
       exact X2 rfl (by decide) (E6 (J6 (ys := _) 3 rfl rfl D6 C1 rfl) (E6 (C5 rfl (by rfl)) K8))
      ·intro h112
       have he : applyS s r = (doneS s r (if s.Floor < r.Time then r.Time else s.Floor) (putP s.Cells h.Writes r.Time).1, true) := by (rw [hap, if_pos h88, hf1 hhas]; dsimp only; rw [if_neg (by omega), if_pos (by simpa using h112)])
       rw [he]
       unfold doneS
       refine D2 (A3 (A2 ?_))
       refine A5 rfl rfl rfl rfl rfl ?_
       refine A1 rfl rfl rfl (B3 1 rfl B8 rfl M7 (A0 rfl) rfl) ?_
       refine I4 2 rfl rfl rfl (A0 rfl) (A0 rfl) (S2 _ _) rfl M7 rfl ?_
       refine A4 (A2 ?_)
       refine A1 rfl rfl rfl (B3 0 rfl B8 rfl C0 (A0 rfl) rfl) ?_
       refine A1 rfl rfl rfl (B1 5 rfl (A0 rfl) rfl D0 rfl) ?_
       refine A1 rfl rfl rfl (B3 2 rfl B6 rfl C0 (A0 rfl) rfl) ?_
       refine A1 rfl rfl rfl (B1 4 rfl (A0 rfl) rfl D0 rfl) ?_
       refine A1 rfl rfl rfl (E5 rfl Tryz.call130 rfl (AQ3 _ _) (A9 (A0 rfl) (A9 (A0 rfl) D1))) ?_
       refine A1 rfl rfl rfl (B3 0 rfl B8 rfl C0 (A0 rfl) rfl) ?_
       refine I4 2 rfl rfl rfl (A0 rfl) (A0 rfl) (K9 _ _) rfl C0 rfl ?_
       refine A4 (A3 (A2 ?_))
       refine A1 rfl rfl rfl (B3 2 rfl B8 rfl E9 (A0 rfl) rfl) ?_
       refine A1 rfl rfl rfl (B1 2 rfl (A0 rfl) rfl I3 rfl) ?_
       refine A1 rfl rfl rfl (B3 1 rfl B6 rfl C0 (A0 rfl) rfl) ?_
       refine A1 rfl rfl rfl (B1 4 rfl (A0 rfl) rfl D0 rfl) ?_
       refine A1 rfl rfl rfl (E5 rfl Tryz.call206 rfl (Ag8 s.Held r.Txn (by omega)) (A9 (A0 rfl) (A9 (A0 rfl) D1))) ?_
       refine A1 rfl rfl rfl (B3 2 rfl B8 rfl E9 (A0 rfl) rfl) ?_
       refine I4 2 rfl rfl rfl (A0 rfl) (A0 rfl) (S2 _ _) rfl E9 rfl ?_
       refine A4 (A3 (A2 ?_))
       refine A1 rfl rfl rfl (B3 3 rfl B8 rfl J3 (A0 rfl) rfl) ?_
       refine A1 rfl rfl rfl (B1 2 rfl (A0 rfl) rfl O0 rfl) ?_
       refine A1 rfl rfl rfl (B3 1 rfl B6 rfl C0 (A0 rfl) rfl) ?_
       refine A1 rfl rfl rfl (B1 4 rfl (A0 rfl) rfl D0 rfl) ?_
       refine A1 rfl rfl rfl (B3 6 rfl B6 rfl J4 (A0 rfl) rfl) ?_
       refine A1 rfl rfl rfl (B1 4 rfl (A0 rfl) rfl L0 rfl) ?_
       refine A1 rfl rfl rfl (B3 2 rfl B6 rfl C0 (A0 rfl) rfl) ?_
       refine A1 rfl rfl rfl (B1 4 rfl (A0 rfl) rfl D0 rfl) ?_
       refine A1 rfl rfl rfl (N0 (places := #[(0, 1), (1, 1), (2, 1)]) rfl K0 Tryz.zeroValue39 (fun w => by kernel_rfl) rfl (E0 (A0 rfl) (K9 _ _) (E0 (A0 rfl) (V3 _) (E0 (A0 rfl) (K9 _ _) H6))) rfl) ?_
       refine A1 rfl rfl rfl (E5 rfl Tryz.call207 rfl (AQ1 s.Told ⟨r.Txn, r.Yes, r.Time⟩ hgt (by omega)) (A9 (A0 rfl) (A9 (A0 rfl) D1))) ?_
       refine A1 rfl rfl rfl (B3 3 rfl B8 rfl J3 (A0 rfl) rfl) ?_
       refine I4 2 rfl rfl rfl (A0 rfl) (A0 rfl) (S2 _ _) rfl J3 rfl ?_
       refine A4 (A3 (A2 ?_))
       refine A1 rfl rfl rfl (F2 2 rfl (A0 rfl) rfl D6 C1 rfl) ?_
       refine D5 3 rfl rfl rfl (A0 rfl) (A0 rfl) (E2 _) rfl C1 rfl ?_
       refine A1 rfl rfl rfl (C3 rfl F4) ?_
       refine A4 ?_
       refine C8 ?_
       exact X2 rfl (by decide) (E6 (J6 (ys := _) 3 rfl rfl D6 C1 rfl) (E6 (C5 rfl (by rfl)) K8))
    ·intro h88
     have he : applyS s r = (doneS s r s.Floor s.Cells, true) := by (rw [hap, if_neg (by rw [h88]; decide)])
     rw [he]
     unfold doneS
     refine D2 (A3 (A2 ?_))
     refine A1 rfl rfl rfl (B3 2 rfl B8 rfl E9 (A0 rfl) rfl) ?_
     refine A1 rfl rfl rfl (B1 2 rfl (A0 rfl) rfl I3 rfl) ?_
     refine A1 rfl rfl rfl (B3 1 rfl B6 rfl C0 (A0 rfl) rfl) ?_
     refine A1 rfl rfl rfl (B1 4 rfl (A0 rfl) rfl D0 rfl) ?_
     refine A1 rfl rfl rfl (E5 rfl Tryz.call206 rfl (Ag8 s.Held r.Txn (by omega)) (A9 (A0 rfl) (A9 (A0 rfl) D1))) ?_
     refine A1 rfl rfl rfl (B3 2 rfl B8 rfl E9 (A0 rfl) rfl) ?_
     refine I4 2 rfl rfl rfl (A0 rfl) (A0 rfl) (S2 _ _) rfl E9 rfl ?_
     refine A4 (A3 (A2 ?_))
     refine A1 rfl rfl rfl (B3 3 rfl B8 rfl J3 (A0 rfl) rfl) ?_
     refine A1 rfl rfl rfl (B1 2 rfl (A0 rfl) rfl O0 rfl) ?_
     refine A1 rfl rfl rfl (B3 1 rfl B6 rfl C0 (A0 rfl) rfl) ?_
     refine A1 rfl rfl rfl (B1 4 rfl (A0 rfl) rfl D0 rfl) ?_
     refine A1 rfl rfl rfl (B3 6 rfl B6 rfl J4 (A0 rfl) rfl) ?_
     refine A1 rfl rfl rfl (B1 4 rfl (A0 rfl) rfl L0 rfl) ?_
     refine A1 rfl rfl rfl (B3 2 rfl B6 rfl C0 (A0 rfl) rfl) ?_
     refine A1 rfl rfl rfl (B1 4 rfl (A0 rfl) rfl D0 rfl) ?_
     refine A1 rfl rfl rfl (N0 (places := #[(0, 1), (1, 1), (2, 1)]) rfl K0 Tryz.zeroValue39 (fun w => by kernel_rfl) rfl (E0 (A0 rfl) (K9 _ _) (E0 (A0 rfl) (V3 _) (E0 (A0 rfl) (K9 _ _) H6))) rfl) ?_
     refine A1 rfl rfl rfl (E5 rfl Tryz.call207 rfl (AQ1 s.Told ⟨r.Txn, r.Yes, r.Time⟩ hgt (by omega)) (A9 (A0 rfl) (A9 (A0 rfl) D1))) ?_
     refine A1 rfl rfl rfl (B3 3 rfl B8 rfl J3 (A0 rfl) rfl) ?_
     refine I4 2 rfl rfl rfl (A0 rfl) (A0 rfl) (S2 _ _) rfl J3 rfl ?_
     refine A4 (A3 (A2 ?_))
     refine A1 rfl rfl rfl (F2 2 rfl (A0 rfl) rfl D6 C1 rfl) ?_
     refine D5 3 rfl rfl rfl (A0 rfl) (A0 rfl) (E2 _) rfl C1 rfl ?_
     refine A1 rfl rfl rfl (C3 rfl F4) ?_
     refine A4 ?_
     refine C8 ?_
     exact X2 rfl (by decide) (E6 (J6 (ys := _) 3 rfl rfl D6 C1 rfl) (E6 (C5 rfl (by rfl)) K8))
end Go.Proofs.YtnlhbdkcgaeimaaGreat

set_option linter.unusedVariables false
set_option linter.unusedSimpArgs false
set_option maxRecDepth 100000
set_option maxHeartbeats 1000000
namespace Go.M
open Go.AV
end Go.M
namespace Go.Proofs.YtnlhbdkcgaeimaaGreat
open Go Go.AV Go.M
attribute [local irreducible] OpW OpA OpS AWP FSpec ESpec GSpec OpE RetOk RetOkG RvDen Le Ev GuardIs SrcIs Int.tmod Int.tdiv IntKind.wrap
theorem Ai5 (s : TState) (hg : goodState s = true) : FSpec Tryz.prog 115 [AV.agg s.cs] (AV.int (settled s)) := by
 have g := Y7.1 hg
 have hhl := g.hlen
 refine E7 Tryz.func115 rfl Tryz.ntmps115 rfl ?_
 refine A3 (A2 ?_)
 refine M3 rfl rfl rfl rfl (A0 rfl) ?_
 intro b1
 refine A1 rfl rfl rfl (C3 rfl C4) ?_
 refine A4 (A3 (A2 ?_))
 refine A1 rfl rfl rfl (B3 0 rfl B8 rfl C0 (A0 rfl) rfl) ?_
 refine A1 rfl rfl rfl (B1 0 rfl (A0 rfl) rfl D0 rfl) ?_
 refine B9 rfl rfl rfl rfl rfl ?_
 refine A4 (A3 (A3 (A2 ?_)))
 refine A1 rfl rfl rfl (B3 2 rfl B8 rfl E9 (A0 rfl) rfl) ?_
 refine A1 rfl rfl rfl (B1 0 rfl (A0 rfl) rfl I3 rfl) ?_
 refine A1 rfl rfl rfl (G9 rfl C9 (A0 rfl)) ?_
 refine A1 rfl rfl rfl (C6 rfl C4) ?_
 refine A4 (D7 ?_)
 refine J9 [(2, _), (9, _), (10, _)] _ (fun (i : Nat) => i ≤ s.Held.length) (fun (i : Nat) => []) (fun (i : Nat) => [(3, AV.int ((s.Held.take i).foldl (fun o h => min o (h.Time - 1)) s.Floor)), (11, AV.int i)]) (fun (i : Nat) => s.Held.length - i) (0) ?_ (J8 ⟨rfl, rfl, rfl, rfl, rfl, trivial⟩) ?_
 ·exact Nat.zero_le _
 intro i hinv
 refine A3 (A2 ?_)
 refine A1 rfl rfl rfl (K6 rfl (A0 rfl) (A0 rfl)) ?_
 refine A4 (A3 ?_)
 refine C7 (A0 rfl) ?_ ?_
 ·intro h12
  have k12 := of_decide_eq_true h12; try simp only [A6] at k12
  have hlt : i < s.Held.length := by omega
  obtain ⟨h, hx⟩ := get_some hlt
  obtain ⟨q1, q2, q3⟩ := AC1 g (G6 hx)
  refine D2 (A3 (D7 (A3 (A2 ?_))))
  refine A1 rfl rfl rfl (I7 rfl C9 D3 (A0 rfl) (A0 rfl) hx (by first | omega | (simp only [A6, A7, B2, B7, A8, szR] at *; omega))) ?_
  refine A1 rfl rfl rfl (K4 rfl (A0 rfl) I0 D3) ?_
  refine G0 rfl rfl rfl rfl Tryz.zeroValue45 rfl ?_
  intro b5
  refine D5 0 rfl rfl rfl (A0 rfl) (A0 rfl) (E2 _) rfl D3 rfl ?_
  refine A4 (A2 ?_)
  refine A5 rfl rfl rfl rfl rfl ?_
  refine A1 rfl rfl rfl (B3 1 rfl F1 rfl C0 (A0 rfl) rfl) ?_
  refine A1 rfl rfl rfl (B1 0 rfl (A0 rfl) rfl D0 rfl) ?_
  refine A1 rfl rfl rfl (Q0 rfl (A0 rfl) C4 (by first | omega | (simp only [A6, A7, B2, B7, A8, szR] at *; omega))) ?_
  refine A1 rfl rfl rfl (E5 rfl Tryz.call214 rfl (Ao4 _ _) (A9 (A0 rfl) (A9 (A0 rfl) D1))) ?_
  refine B9 rfl rfl rfl rfl rfl ?_
  refine A4 (A2 ?_)
  refine A1 rfl rfl rfl (G7 rfl (A0 rfl) C4 (by first | omega | (simp only [A6, A7, B2, B7, A8, szR] at *; omega))) ?_
  refine A5 rfl rfl rfl rfl rfl ?_
  refine A4 ?_
  refine L4 i (i + 1) ?_ ?_ (T9 1 ⟨congrArg (fun z => some (AV.int z)) (by rw [AP8 hx]; unfold leastI; split <;> split <;> omega), rfl, rfl, rfl, rfl, trivial⟩)
  ·omega
  ·omega
 ·intro h12
  have k12 := of_decide_eq_false h12; try simp only [A6] at k12
  have hge : s.Held.length ≤ i := by omega
  rw [List.take_of_length_le hge]
  refine H3 ?_
  refine A3 (A2 ?_)
  refine A5 rfl rfl rfl rfl rfl ?_
  refine B9 rfl rfl rfl rfl rfl ?_
  refine A4 ?_
  refine C8 ?_
  exact H9 rfl (C5 rfl (by rfl))
theorem AF2 (s : TState) (hs : s.size ≤ 400000) : FSpec Tryz.prog 32 [AV.agg s.cs] (AV.tup [AV.int (settledR s).1, AV.bool (settledR s).2]) := by
 refine E7 Tryz.func32 rfl Tryz.ntmps32 rfl ?_
 refine A3 (A2 ?_)
 refine M3 rfl rfl rfl rfl (A0 rfl) ?_
 intro b1
 refine A1 rfl rfl rfl (C3 rfl C4) ?_
 refine A1 rfl rfl rfl (C3 rfl F4) ?_
 refine A4 (A3 (A3 (A2 ?_)))
 refine A1 rfl rfl rfl (F2 0 rfl (A0 rfl) rfl D6 C1 rfl) ?_
 refine A1 rfl rfl rfl (E5 rfl Tryz.call102 rfl (AF0 _ (by first | assumption | omega)) (A9 (A0 rfl) D1)) ?_
 refine A1 rfl rfl rfl (M2 rfl (A0 rfl)) ?_
 refine A4 ?_
 refine C7 (A0 rfl) ?_ ?_
 ·intro h6
  have he : settledR s = (0, false) := if_neg (by simpa using h6)
  rw [he]
  refine A3 (A2 ?_)
  refine A1 rfl rfl rfl (C3 rfl C4) ?_
  refine A1 rfl rfl rfl (C3 rfl F4) ?_
  refine A4 ?_
  refine C8 ?_
  exact X2 rfl (by decide) (E6 (C5 rfl (by rfl)) (E6 (C5 rfl (by rfl)) K8))
 ·intro h6
  have hg : goodState s = true := by simpa using h6
  have he : settledR s = (settled s, true) := if_pos hg
  rw [he]
  refine D2 (A3 (A2 ?_))
  refine A1 rfl rfl rfl (F2 0 rfl (A0 rfl) rfl D6 C1 rfl) ?_
  refine A1 rfl rfl rfl (E5 rfl Tryz.call115 rfl (Ai5 _ (by assumption)) (A9 (A0 rfl) D1)) ?_
  refine B9 rfl rfl rfl rfl rfl ?_
  refine A1 rfl rfl rfl (C3 rfl F4) ?_
  refine A4 ?_
  refine C8 ?_
  exact X2 rfl (by decide) (E6 (C5 rfl (by rfl)) (E6 (C5 rfl (by rfl)) K8))
theorem As1 (s : TState) (k : Str) (t : Int) (hs : s.size ≤ 1048576) : GSpec Tryz.prog 121 [AV.agg s.cs, AV.str k, AV.int t] [] (fun _ : Value => True) (fun x => [.arr x 3 1 ((blocksOf s.Held k t).map fun n => [AV.int n])]) (fun x => AV.is x) := by
 obtain ⟨hs1, hs2, hs3, hs4, hs5⟩ := R9 hs
 refine H5 Tryz.func121 rfl Tryz.ntmps121 rfl ?_
 refine A3 (A2 ?_)
 refine M3 rfl rfl rfl rfl (A0 rfl) ?_
 intro b3
 refine A1 rfl rfl rfl (C3 rfl K5) ?_
 refine A4 (A3 (A2 ?_))
 refine Q5 3 1 rfl rfl rfl rfl K5 ?_
 intro v7
 refine A4 (A3 (A3 (A2 ?_)))
 refine A1 rfl rfl rfl (B3 2 rfl B8 rfl E9 (A0 rfl) rfl) ?_
 refine A1 rfl rfl rfl (B1 1 rfl (A0 rfl) rfl I3 rfl) ?_
 refine A1 rfl rfl rfl (G9 rfl C9 (A0 rfl)) ?_
 refine A1 rfl rfl rfl (C6 rfl C4) ?_
 refine A4 (D7 ?_)
 refine V0 [(1, _), (2, _), (6, _), (11, _), (12, _)] _ (fun (i : Nat) (v : Value) (ns : List Int) => i ≤ s.Held.length ∧ ns = blocksOf (s.Held.take i) k t) (fun (i : Nat) (v : Value) (ns : List Int) => [.arr v 3 1 (ns.map fun n => [AV.int n])]) (fun (i : Nat) (v : Value) (ns : List Int) => [(7, AV.is v), (13, AV.int i)]) (fun (i : Nat) (v : Value) (ns : List Int) => s.Held.length - i) (0) (v7) ([]) ?_ (S7 (by rfl) ⟨rfl, rfl, rfl, rfl, rfl, rfl, rfl, trivial⟩) ?_
 ·exact ⟨Nat.zero_le _, rfl⟩
 intro i v ns hinv
 refine A3 (A2 ?_)
 refine A1 rfl rfl rfl (K6 rfl (A0 rfl) (A0 rfl)) ?_
 refine A4 (A3 ?_)
 refine C7 (A0 rfl) ?_ ?_
 ·intro h14
  have k14 := of_decide_eq_true h14; try simp only [A6] at k14
  have hlt : i < s.Held.length := by omega
  obtain ⟨h, hx⟩ := get_some hlt
  have hnl : ns.length ≤ 1048576 := by (rw [hinv.2]; have h9 := Aa0 (s.Held.take i) k t; rw [A7] at h9; omega)
  refine D2 (A3 (D7 (A3 (A2 ?_))))
  refine A1 rfl rfl rfl (I7 rfl C9 D3 (A0 rfl) (A0 rfl) hx (by first | omega | (simp only [A6, A7, B2, B7, A8, szR] at *; omega))) ?_
  refine A1 rfl rfl rfl (K4 rfl (A0 rfl) I0 D3) ?_
  refine G0 rfl rfl rfl rfl Tryz.zeroValue45 rfl ?_
  intro b9
  refine D5 0 rfl rfl rfl (A0 rfl) (A0 rfl) (E2 _) rfl D3 rfl ?_
  refine A4 (A3 (A2 ?_))
  refine A1 rfl rfl rfl (B3 1 rfl F1 rfl C0 (A0 rfl) rfl) ?_
  refine A1 rfl rfl rfl (B1 0 rfl (A0 rfl) rfl D0 rfl) ?_
  refine A5 rfl rfl rfl rfl rfl ?_
  refine A1 rfl rfl rfl (U5 rfl (A0 rfl) (A0 rfl)) ?_
  refine A5 rfl rfl rfl rfl rfl ?_
  refine B4 rfl rfl (C2 rfl rfl rfl) (fun hc => B3 4 rfl F1 rfl K2 (A0 rfl) rfl) ?_
  refine B4 rfl rfl (C2 rfl rfl rfl) (fun hc => B1 0 rfl (B0 rfl hc) rfl L8 rfl) ?_
  refine B4 rfl rfl (C2 rfl rfl rfl) (fun hc => C6 rfl (A0 rfl)) ?_
  refine B4 rfl rfl (C2 rfl rfl rfl) (fun hc => E5 rfl Tryz.call218 rfl (AK6 _ _) (A9 (B0 rfl hc) (A9 (B0 rfl hc) D1))) ?_
  refine A1 rfl rfl rfl (I6 rfl (A0 rfl) (G4 rfl)) ?_
  refine A4 ?_
  refine C7 (A0 rfl) ?_ ?_
  ·intro h26
   refine A2 ?_
   refine A5 rfl rfl rfl rfl rfl ?_
   refine A1 rfl rfl rfl (B3 0 rfl F1 rfl C0 (A0 rfl) rfl) ?_
   refine A1 rfl rfl rfl (B1 0 rfl (A0 rfl) rfl D0 rfl) ?_
   refine A1 rfl rfl rfl (L9 rfl N8 C0 Tryz.zeroValue3 rfl rfl rfl rfl (E0 (A0 rfl) (K9 _ _) H6) rfl rfl) ?_
   refine L5 (by' := 8) 1 rfl rfl rfl rfl N8 Tryz.type3 rfl rfl rfl rfl rfl rfl (A0 rfl) (A0 rfl) rfl (by first | omega | (simp only [A6, A7, B2, B7, A8, szR] at *; omega)) ?_
   intro v31_1
   refine B9 rfl rfl rfl rfl rfl ?_
   refine A4 (A2 ?_)
   refine A1 rfl rfl rfl (G7 rfl (A0 rfl) C4 (by first | omega | (simp only [A6, A7, B2, B7, A8, szR] at *; omega))) ?_
   refine A5 rfl rfl rfl rfl rfl ?_
   refine A4 ?_
   refine T5 i v ns (i + 1) (v31_1) (ns ++ [h.Txn]) ?_ ?_ (Le.trans (I8 [0, 0] rfl) (M1 1 (by first | rfl | (rw [List.map_append]; rfl)) ⟨rfl, rfl, rfl, rfl, rfl, rfl, rfl, trivial⟩))
   ·first | exact ⟨by omega, by rw [AC0 hx (by rw [Bool.and_comm]; exact h26), hinv.2]⟩ | exact ⟨by omega, by rw [AE8 hx (by rw [Bool.and_comm]; exact h26), hinv.2]⟩
   ·omega
  ·intro h26
   refine D2 (A2 ?_)
   refine A1 rfl rfl rfl (G7 rfl (A0 rfl) C4 (by first | omega | (simp only [A6, A7, B2, B7, A8, szR] at *; omega))) ?_
   refine A5 rfl rfl rfl rfl rfl ?_
   refine A4 ?_
   refine T5 i v ns (i + 1) (v) (ns) ?_ ?_ (Le.trans (I8 [0, 0] rfl) (M1 1 (by first | rfl | (rw [List.map_append]; rfl)) ⟨rfl, rfl, rfl, rfl, rfl, rfl, rfl, trivial⟩))
   ·first | exact ⟨by omega, by rw [AC0 hx (by rw [Bool.and_comm]; exact h26), hinv.2]⟩ | exact ⟨by omega, by rw [AE8 hx (by rw [Bool.and_comm]; exact h26), hinv.2]⟩
   ·omega
 ·intro h14
  have k14 := of_decide_eq_false h14; try simp only [A6] at k14
  have hge : s.Held.length ≤ i := by omega
  have hns := hinv.2
  rw [List.take_of_length_le hge] at hns
  rw [← hns]
  refine H3 ?_
  refine A3 (A2 ?_)
  refine A5 rfl rfl rfl rfl rfl ?_
  refine B9 rfl rfl rfl rfl rfl ?_
  refine A4 ?_
  refine C8 ?_
  exact K1 [0] v (trivial) rfl (by rfl) (N1 rfl (C5 rfl (by rfl)))
theorem Ao7 (s : TState) (k : Str) (t : Int) (hs : s.size ≤ 1048576) : FSpec Tryz.prog 121 [AV.agg s.cs, AV.str k, AV.int t] (ints (blocksOf s.Held k t)) :=
  Q7 (As1 s k t hs) fun x _ => M6 (List.mem_singleton.2 rfl) J0
theorem AF3 (s : TState) (k : Str) (t : Int) (hs : s.size ≤ 400000) (hk : k.length ≤ 1048576) : FSpec Tryz.prog 35 [AV.agg s.cs, AV.str k, AV.int t] (AV.tup [ints (blocksR s k t).1, AV.bool (blocksR s k t).2]) := by
 refine E7 Tryz.func35 rfl Tryz.ntmps35 rfl ?_
 refine A3 (A2 ?_)
 refine M3 rfl rfl rfl rfl (A0 rfl) ?_
 intro b3
 refine A1 rfl rfl rfl (C3 rfl (n3 (sz := 1))) ?_
 refine A1 rfl rfl rfl (C3 rfl F4) ?_
 refine A4 (A3 (A3 (A2 ?_)))
 refine A1 rfl rfl rfl (F2 0 rfl (A0 rfl) rfl D6 C1 rfl) ?_
 refine A1 rfl rfl rfl (E5 rfl Tryz.call102 rfl (AF0 _ (by first | assumption | omega)) (A9 (A0 rfl) D1)) ?_
 refine A1 rfl rfl rfl (M2 rfl (A0 rfl)) ?_
 refine A5 rfl rfl rfl rfl rfl ?_
 refine B4 rfl rfl (D4 rfl rfl rfl) (fun hc => C6 rfl (A0 rfl)) ?_
 refine B4 rfl rfl (D4 rfl rfl rfl) (fun hc => E5 rfl Tryz.call119 rfl (AB7 _ (by omega)) (A9 (B0 rfl hc) D1)) ?_
 refine B4 rfl rfl (D4 rfl rfl rfl) (fun hc => M2 rfl (B0 rfl hc)) ?_
 refine A1 rfl rfl rfl (Q4 rfl (A0 rfl) (G4 rfl)) ?_
 refine A5 rfl rfl rfl rfl rfl ?_
 refine B4 rfl rfl (D4 rfl rfl rfl) (fun hc => C6 rfl (A0 rfl)) ?_
 refine B4 rfl rfl (D4 rfl rfl rfl) (fun hc => E5 rfl Tryz.call120 rfl (AT3 _) (A9 (B0 rfl hc) D1)) ?_
 refine B4 rfl rfl (D4 rfl rfl rfl) (fun hc => M2 rfl (B0 rfl hc)) ?_
 refine A1 rfl rfl rfl (Q4 rfl (A0 rfl) (G4 rfl)) ?_
 refine A4 ?_
 refine C7 (A0 rfl) ?_ ?_
 ·intro h20
  have he : blocksR s k t = ([], false) := if_neg (by intro h; simp only [Bool.and_eq_true] at h; rw [h.1.1, ← n9, h.1.2, h.2] at h20; cases h20)
  rw [he]
  refine A3 (A2 ?_)
  refine A1 rfl rfl rfl (C3 rfl (n3 (sz := 1))) ?_
  refine A1 rfl rfl rfl (C3 rfl F4) ?_
  refine A4 ?_
  refine C8 ?_
  exact X2 rfl (by decide) (E6 (C5 rfl (by rfl)) (E6 (C5 rfl (by rfl)) K8))
 ·intro h20
  simp only [Bool.or_eq_false_iff, Bool.not_eq_false'] at h20
  have he : blocksR s k t = (blocksOf s.Held k t, true) := if_pos (by rw [n9, h20.1.1, h20.1.2, h20.2]; rfl)
  rw [he]
  refine D2 (A3 (A2 ?_))
  refine A1 rfl rfl rfl (F2 0 rfl (A0 rfl) rfl D6 C1 rfl) ?_
  refine A5 rfl rfl rfl rfl rfl ?_
  refine A5 rfl rfl rfl rfl rfl ?_
  refine A1 rfl rfl rfl (E5 rfl Tryz.call121 rfl (Ao7 _ _ _ (by first | assumption | omega)) (A9 (A0 rfl) (A9 (A0 rfl) (A9 (A0 rfl) D1)))) ?_
  refine B9 rfl rfl rfl rfl rfl ?_
  refine A1 rfl rfl rfl (C3 rfl F4) ?_
  refine A4 ?_
  refine C8 ?_
  exact X2 rfl (by decide) (E6 (C5 rfl (by rfl)) (E6 (C5 rfl (by rfl)) K8))
theorem of_own (l : List TRec) (hl : l.length ≤ 60) (hr : ∀ r ∈ l, r.size ≤ 1100) : GSpec Tryz.prog 86 [AV.list 7 (l.map TRec.cs)] [] (fun _ : Value => True) (fun x => [.arr x 4 1 ((didFrom zState l).map fun b => [AV.bool b])]) (fun x => AV.tup [AV.agg (stFrom zState l).cs, AV.is x]) := by
 have hgs : ∀ i, SO (stFrom zState (l.take i)) := fun i => AS0 Ac9
 have hsz : ∀ i, (stFrom zState (l.take i)).size ≤ 300000 := fun i => by
  have h1 := AD8 (stFrom zState (l.take i))
  have h2 := u6 (m := 1100) (s := zState) (l := l.take i) fun r hr2 => hr r (List.mem_of_mem_take hr2)
  have h3 : phi zState = 0 := rfl
  have h4 : (l.take i).length ≤ 60 := by rw [A7]; omega
  have h5 : (l.take i).length * (3 * (1 + 1100) + 1) ≤ 60 * 3304 := Nat.mul_le_mul h4 (by decide)
  omega
 refine H5 Tryz.func86 rfl Tryz.ntmps86 rfl ?_
 refine A3 (A2 ?_)
 refine G0 rfl rfl rfl rfl Tryz.zeroValue30 rfl ?_
 intro b2
 refine A1 rfl rfl rfl (C3 rfl K5) ?_
 refine A4 (A3 (A2 ?_))
 refine G0 rfl rfl rfl rfl Tryz.zeroValue30 rfl ?_
 intro b4
 refine A4 (A3 (A2 ?_))
 refine Q5 4 1 rfl rfl rfl rfl K5 ?_
 intro v5
 refine A4 (A3 (A3 ?_))
 refine AWP.le (l4 1 1 2 rfl rfl O5) ?_
 refine AWP.le (l4 1 2 5 rfl rfl O5) ?_
 refine AWP.le (l4 1 3 3 rfl rfl O5) ?_
 refine A2 ?_
 refine A5 rfl rfl rfl rfl rfl ?_
 refine A1 rfl rfl rfl (G9 rfl I9 (A0 rfl)) ?_
 refine A1 rfl rfl rfl (C6 rfl C4) ?_
 refine A4 (D7 ?_)
 refine AWP.le (I8 [1, 0] rfl) ?_
 refine V0 [(2, _), (3, _), (4, _), (10, _), (11, _)] _ (fun (i : Nat) (v : Value) (bs : List Bool) => i ≤ l.length ∧ bs = didFrom zState (l.take i) ∧ bs.length ≤ i) (fun (i : Nat) (v : Value) (bs : List Bool) => [.box b4 30 (stFrom zState (l.take i)).cs, .arr v 4 1 (bs.map fun b => [AV.bool b])]) (fun (i : Nat) (v : Value) (bs : List Bool) => [(5, AV.is v), (12, AV.int i)]) (fun (i : Nat) (v : Value) (bs : List Bool) => l.length - i) (0) (v5) ([]) ?_ (S7 (by rfl) ⟨rfl, rfl, rfl, rfl, rfl, rfl, rfl, trivial⟩) ?_
 ·exact ⟨Nat.zero_le _, rfl, Nat.le_refl _⟩
 intro i v bs hinv
 refine A3 (A2 ?_)
 refine A1 rfl rfl rfl (K6 rfl (A0 rfl) (A0 rfl)) ?_
 refine A4 (A3 ?_)
 refine C7 (A0 rfl) ?_ ?_
 ·intro h13
  have k13 := of_decide_eq_true h13; try simp only [A6] at k13
  have hlt : i < l.length := by omega
  obtain ⟨r, hx⟩ := get_some hlt
  have hgr := hr r (G6 hx)
  have hgi := hgs i
  have hsi := hsz i
  refine D2 (A3 (D7 (A3 (A2 ?_))))
  refine A1 rfl rfl rfl (I7 rfl I9 F7 (A0 rfl) (A0 rfl) hx (by first | omega | (simp only [A6, A7, B2, B7, A8, szR] at *; omega))) ?_
  refine A1 rfl rfl rfl (K4 rfl (A0 rfl) K7 F7) ?_
  refine G0 rfl rfl rfl rfl Tryz.zeroValue49 rfl ?_
  intro b7
  refine D5 0 rfl rfl rfl (A0 rfl) (A0 rfl) (E2 _) rfl F7 rfl ?_
  refine A4 (A3 (A2 ?_))
  refine A1 rfl rfl rfl (F2 1 rfl (A0 rfl) rfl D6 C1 rfl) ?_
  refine A1 rfl rfl rfl (F2 0 rfl (A0 rfl) rfl K7 F7 rfl) ?_
  refine A1 rfl rfl rfl (E5 rfl Tryz.call103 rfl (As0 (stFrom zState (l.take i)) r hgi (by omega) (by omega)) (A9 (A0 rfl) (A9 (A0 rfl) D1))) ?_
  refine A5 rfl rfl rfl rfl rfl ?_
  refine A1 rfl rfl rfl (F6 rfl (A0 rfl) rfl) ?_
  refine A1 rfl rfl rfl (F6 rfl (A0 rfl) rfl) ?_
  refine G0 rfl rfl rfl rfl Tryz.zeroValue30 rfl ?_
  intro b8
  refine D5 0 rfl rfl rfl (A0 rfl) (A0 rfl) (E2 _) rfl C1 rfl ?_
  refine B9 rfl rfl rfl rfl rfl ?_
  refine A4 (A3 (A3 (A2 ?_)))
  refine A5 rfl rfl rfl rfl rfl ?_
  refine A4 ?_
  refine C7 (A0 rfl) ?_ ?_
  ·intro h22
   have hstep : (applyS (stFrom zState (l.take i)) r).1 = stepS (stFrom zState (l.take i)) r := by (unfold stepS; rw [if_pos h22])
   refine A2 ?_
   refine A1 rfl rfl rfl (F2 0 rfl (A0 rfl) rfl D6 C1 rfl) ?_
   refine D5 2 rfl rfl rfl (A0 rfl) (A0 rfl) (E2 _) rfl C1 rfl ?_
   refine A4 (A2 ?_)
   refine A5 rfl rfl rfl rfl rfl ?_
   refine A5 rfl rfl rfl rfl rfl ?_
   refine A1 rfl rfl rfl (L9 rfl R6 J4 Tryz.zeroValue4 rfl rfl rfl rfl (E0 (A0 rfl) (V3 _) H6) rfl rfl) ?_
   refine L5 (by' := 1) 3 rfl rfl rfl rfl R6 Tryz.type4 rfl rfl rfl rfl rfl rfl (A0 rfl) (A0 rfl) rfl (by first | omega | (simp only [A6, A7, B2, B7, A8, szR] at *; omega)) ?_
   intro v27_1
   refine B9 rfl rfl rfl rfl rfl ?_
   refine A4 (A2 ?_)
   refine A1 rfl rfl rfl (G7 rfl (A0 rfl) C4 (by first | omega | (simp only [A6, A7, B2, B7, A8, szR] at *; omega))) ?_
   refine A5 rfl rfl rfl rfl rfl ?_
   refine A4 ?_
   refine T5 i v bs (i + 1) (v27_1) (bs ++ [(applyS (stFrom zState (l.take i)) r).2]) ?_ ?_ (Le.trans (I8 [0, 0, 0, 0] rfl) (M1 2 (by first | (rw [List.map_append, m2 hx, ← hstep]; rfl) | rfl) ⟨rfl, rfl, rfl, rfl, rfl, rfl, rfl, trivial⟩))
   ·exact ⟨by omega, by rw [i6 hx, hinv.2.1], by rw [J1]; simp; omega⟩
   ·omega
  ·intro h22
   have hstep : stFrom zState (l.take i) = stepS (stFrom zState (l.take i)) r := by (conv => rhs; unfold stepS; rw [if_neg (by rw [h22]; decide)])
   refine D2 (A2 ?_)
   refine A5 rfl rfl rfl rfl rfl ?_
   refine A5 rfl rfl rfl rfl rfl ?_
   refine A1 rfl rfl rfl (L9 rfl R6 J4 Tryz.zeroValue4 rfl rfl rfl rfl (E0 (A0 rfl) (V3 _) H6) rfl rfl) ?_
   refine L5 (by' := 1) 3 rfl rfl rfl rfl R6 Tryz.type4 rfl rfl rfl rfl rfl rfl (A0 rfl) (A0 rfl) rfl (by first | omega | (simp only [A6, A7, B2, B7, A8, szR] at *; omega)) ?_
   intro v27_2
   refine B9 rfl rfl rfl rfl rfl ?_
   refine A4 (A2 ?_)
   refine A1 rfl rfl rfl (G7 rfl (A0 rfl) C4 (by first | omega | (simp only [A6, A7, B2, B7, A8, szR] at *; omega))) ?_
   refine A5 rfl rfl rfl rfl rfl ?_
   refine A4 ?_
   refine T5 i v bs (i + 1) (v27_2) (bs ++ [(applyS (stFrom zState (l.take i)) r).2]) ?_ ?_ (Le.trans (I8 [0, 0, 0, 0] rfl) (M1 2 (by first | (rw [List.map_append, m2 hx, ← hstep]; rfl) | rfl) ⟨rfl, rfl, rfl, rfl, rfl, rfl, rfl, trivial⟩))
   ·exact ⟨by omega, by rw [i6 hx, hinv.2.1], by rw [J1]; simp; omega⟩
   ·omega
 ·intro h13
  have k13 := of_decide_eq_false h13; try simp only [A6] at k13
  have hge : i = l.length := by omega
  have hbs := hinv.2.1
  rw [hge, List.take_length] at hbs
  rw [hge, List.take_length, ← hbs]
  refine H3 ?_
  refine A3 (A2 ?_)
  refine A1 rfl rfl rfl (F2 0 rfl (A0 rfl) rfl D6 C1 rfl) ?_
  refine A5 rfl rfl rfl rfl rfl ?_
  refine D5 2 rfl rfl rfl (A0 rfl) (A0 rfl) (E2 _) rfl C1 rfl ?_
  refine B9 rfl rfl rfl rfl rfl ?_
  refine A4 ?_
  refine C8 ?_
  exact K1 [1] v (trivial) rfl (by rfl) (T2 rfl (by decide) (E6 (J6 (ys := _) 2 rfl rfl D6 C1 rfl) (E6 (C5 rfl (by rfl)) K8)))
theorem Ao8 (l : List TRec) (hl : l.length ≤ 1048576) (hr : ∀ r ∈ l, r.size ≤ 1100) : GSpec Tryz.prog 11 [AV.list 7 (l.map TRec.cs)] [] (fun _ : Value => True) (fun x => [.arr x 4 1 ((stateOfR l).2.1.map fun b => [AV.bool b])]) (fun x => AV.tup [AV.agg (stateOfR l).1.cs, AV.is x, AV.bool (stateOfR l).2.2]) := by
 refine H5 Tryz.func11 rfl Tryz.ntmps11 rfl ?_
 refine A3 (A2 ?_)
 refine G0 rfl rfl rfl rfl Tryz.zeroValue30 rfl ?_
 intro b2
 refine A1 rfl rfl rfl (C3 rfl K5) ?_
 refine A1 rfl rfl rfl (C3 rfl F4) ?_
 refine A4 (A3 (A3 (A2 ?_)))
 refine A5 rfl rfl rfl rfl rfl ?_
 refine A1 rfl rfl rfl (G9 rfl I9 (A0 rfl)) ?_
 refine A1 rfl rfl rfl (C6 rfl C4) ?_
 refine A4 (D7 ?_)
 refine J9 [(0, _), (2, _), (9, _), (10, _)] _ (fun (i : Nat) => i ≤ l.length ∧ l.all goodRec = (l.drop i).all goodRec) (fun (i : Nat) => []) (fun (i : Nat) => [(11, AV.int i)]) (fun (i : Nat) => l.length - i) (0) ?_ (J8 ⟨rfl, rfl, rfl, rfl, rfl, trivial⟩) ?_
 ·exact ⟨Nat.zero_le _, rfl⟩
 intro i hinv
 refine A3 (A2 ?_)
 refine A1 rfl rfl rfl (K6 rfl (A0 rfl) (A0 rfl)) ?_
 refine A4 (A3 ?_)
 refine C7 (A0 rfl) ?_ ?_
 ·intro h12
  have k12 := of_decide_eq_true h12; try simp only [A6] at k12
  have hlt : i < l.length := by omega
  obtain ⟨r, hx⟩ := get_some hlt
  have hgr := hr r (G6 hx)
  refine D2 (A3 (D7 (A3 (A2 ?_))))
  refine A1 rfl rfl rfl (I7 rfl I9 F7 (A0 rfl) (A0 rfl) hx (by first | omega | (simp only [A6, A7, B2, B7, A8, szR] at *; omega))) ?_
  refine A1 rfl rfl rfl (K4 rfl (A0 rfl) K7 F7) ?_
  refine G0 rfl rfl rfl rfl Tryz.zeroValue49 rfl ?_
  intro b6
  refine D5 0 rfl rfl rfl (A0 rfl) (A0 rfl) (E2 _) rfl F7 rfl ?_
  refine A4 (A3 (A2 ?_))
  refine A1 rfl rfl rfl (F2 0 rfl (A0 rfl) rfl K7 F7 rfl) ?_
  refine A1 rfl rfl rfl (E5 rfl Tryz.call85 rfl (AT6 _ (by first | assumption | omega)) (A9 (A0 rfl) D1)) ?_
  refine A1 rfl rfl rfl (M2 rfl (A0 rfl)) ?_
  refine A4 ?_
  refine C7 (A0 rfl) ?_ ?_
  ·intro h17
   have he : stateOfR l = (zState, [], false) := by (unfold stateOfR; rw [if_neg (by rw [hinv.2, drop_some hx, List.all_cons, AJ4, show l4Good r = false by simpa using h17]; simp)])
   rw [he]
   refine A3 (A2 ?_)
   refine A1 rfl rfl rfl (N0 (places := #[(0, 1), (1, 1), (2, 1), (3, 1)]) rfl B8 Tryz.zeroValue30 (fun w => by kernel_rfl) rfl H6 rfl) ?_
   refine D5 1 rfl rfl rfl (A0 rfl) (A0 rfl) (E2 _) rfl C1 rfl ?_
   refine A1 rfl rfl rfl (C3 rfl K5) ?_
   refine A1 rfl rfl rfl (C3 rfl F4) ?_
   refine A4 ?_
   refine C8 ?_
   refine S8 1 1 2 rfl rfl O5 ?_
   refine S8 1 2 5 rfl rfl O5 ?_
   refine S8 1 3 3 rfl rfl O5 ?_
   refine T6 4 1 ?_
   exact K1 [0] (Value.slice none 0 0) (trivial) rfl (by rfl) (T2 rfl (by decide) (E6 (J6 (ys := _) 2 rfl rfl D6 C1 rfl) (E6 (C5 rfl (by rfl)) (E6 (C5 rfl (by rfl)) K8))))
  ·intro h17
   refine D2 (A2 ?_)
   refine A1 rfl rfl rfl (G7 rfl (A0 rfl) C4 (by first | omega | (simp only [A6, A7, B2, B7, A8, szR] at *; omega))) ?_
   refine A5 rfl rfl rfl rfl rfl ?_
   refine A4 ?_
   refine L4 i (i + 1) ?_ ?_ (T9 1 ⟨rfl, rfl, rfl, rfl, rfl, trivial⟩)
   ·exact ⟨by omega, by rw [hinv.2, drop_some hx, List.all_cons, AJ4, show l4Good r = true by simpa using h17]; rfl⟩
   ·omega
 ·intro h12
  have k12 := of_decide_eq_false h12; try simp only [A6] at k12
  have hge : l.length ≤ i := by omega
  have hall : l.all goodRec = true := by (rw [hinv.2, List.drop_eq_nil_of_le hge]; rfl)
  refine H3 ?_
  refine A3 (A3 (A2 ?_))
  refine A5 rfl rfl rfl rfl rfl ?_
  refine A1 rfl rfl rfl (G9 rfl I9 (A0 rfl)) ?_
  refine A1 rfl rfl rfl (P8 rfl (A0 rfl) C4) ?_
  refine A4 ?_
  refine C7 (A0 rfl) ?_ ?_
  ·intro h22
   have k22 := of_decide_eq_true h22; try simp only [A6] at k22
   have he : stateOfR l = (zState, [], false) := by (unfold stateOfR; rw [if_neg (by omega)])
   rw [he]
   refine A3 (A2 ?_)
   refine A1 rfl rfl rfl (N0 (places := #[(0, 1), (1, 1), (2, 1), (3, 1)]) rfl B8 Tryz.zeroValue30 (fun w => by kernel_rfl) rfl H6 rfl) ?_
   refine D5 0 rfl rfl rfl (A0 rfl) (A0 rfl) (E2 _) rfl C1 rfl ?_
   refine A1 rfl rfl rfl (C3 rfl K5) ?_
   refine A1 rfl rfl rfl (C3 rfl F4) ?_
   refine A4 ?_
   refine C8 ?_
   refine S8 0 1 2 rfl rfl O5 ?_
   refine S8 0 2 5 rfl rfl O5 ?_
   refine S8 0 3 3 rfl rfl O5 ?_
   refine T6 4 1 ?_
   exact K1 [0] (Value.slice none 0 0) (trivial) rfl (by rfl) (T2 rfl (by decide) (E6 (J6 (ys := _) 1 rfl rfl D6 C1 rfl) (E6 (C5 rfl (by rfl)) (E6 (C5 rfl (by rfl)) K8))))
  ·intro h22
   have k22 := of_decide_eq_false h22; try simp only [A6] at k22
   have hl6 : l.length ≤ 60 := by omega
   have he : stateOfR l = (stFrom zState l, didFrom zState l, true) := if_pos ⟨hl6, hall⟩
   rw [he]
   refine D2 (A3 (A2 ?_))
   refine A5 rfl rfl rfl rfl rfl ?_
   refine I2 [] rfl rfl rfl rfl Tryz.call86 rfl (of_own _ (by first | assumption | omega) (by assumption)) (A9 (A0 rfl) D1) rfl ?_
   intro x26 ok26
   refine A5 rfl rfl rfl rfl rfl ?_
   refine A1 rfl rfl rfl (F6 rfl (A0 rfl) rfl) ?_
   refine A1 rfl rfl rfl (F6 rfl (A0 rfl) rfl) ?_
   refine G0 rfl rfl rfl rfl Tryz.zeroValue30 rfl ?_
   intro b7
   refine D5 0 rfl rfl rfl (A0 rfl) (A0 rfl) (E2 _) rfl C1 rfl ?_
   refine B9 rfl rfl rfl rfl rfl ?_
   refine A4 (A3 (A2 ?_))
   refine A1 rfl rfl rfl (F2 0 rfl (A0 rfl) rfl D6 C1 rfl) ?_
   refine A5 rfl rfl rfl rfl rfl ?_
   refine D5 2 rfl rfl rfl (A0 rfl) (A0 rfl) (E2 _) rfl C1 rfl ?_
   refine B9 rfl rfl rfl rfl rfl ?_
   refine A1 rfl rfl rfl (C3 rfl F4) ?_
   refine A4 ?_
   refine C8 ?_
   exact K1 [1] x26 (trivial) rfl (by rfl) (T2 rfl (by decide) (E6 (J6 (ys := _) 2 rfl rfl D6 C1 rfl) (E6 (C5 rfl (by rfl)) (E6 (C5 rfl (by rfl)) K8))))
theorem Ad0 (l : List TRec) (hl : l.length ≤ 1048576) (hr : ∀ r ∈ l, r.size ≤ 1100) : FSpec Tryz.prog 11 [AV.list 7 (l.map TRec.cs)] (AV.tup [AV.agg (stateOfR l).1.cs, AV.list 1 ((stateOfR l).2.1.map fun b => [AV.bool b]), AV.bool (stateOfR l).2.2]) :=
  Q7 (Ao8 l hl hr) fun x _ => AM9 (G8 L6 (G8 (M6 (G6 (i := 0) rfl) J0) (G8 L6 T8)))
theorem Ao9 (x y : TTold) : (x.Txn == y.Txn && (x.Yes == y.Yes && (x.Time == y.Time && true))) = decide (x = y) := by
  cases x; cases y
  rw [Bool.eq_iff_iff]
  simp
theorem Aa3 (a b : TState) (hs : a.size ≤ 1048576) : FSpec Tryz.prog 13 [AV.agg a.cs, AV.agg b.cs] (AV.bool (decide (a = b))) := by
 obtain ⟨hs1, hs2, hs3, hs4, hs5⟩ := R9 hs
 refine E7 Tryz.func13 rfl Tryz.ntmps13 rfl ?_
 refine A3 (A2 ?_)
 refine M3 rfl rfl rfl rfl (A0 rfl) ?_
 intro b2
 refine M3 rfl rfl rfl rfl (A0 rfl) ?_
 intro b3
 refine A1 rfl rfl rfl (C3 rfl F4) ?_
 refine A4 (A3 (A3 (A2 ?_)))
 refine A1 rfl rfl rfl (B3 0 rfl B8 rfl C0 (A0 rfl) rfl) ?_
 refine A1 rfl rfl rfl (B1 1 rfl (A0 rfl) rfl D0 rfl) ?_
 refine A1 rfl rfl rfl (B3 0 rfl B8 rfl C0 (A0 rfl) rfl) ?_
 refine A1 rfl rfl rfl (B1 0 rfl (A0 rfl) rfl D0 rfl) ?_
 refine A1 rfl rfl rfl (g8 rfl (A0 rfl) (A0 rfl)) ?_
 refine A5 rfl rfl rfl rfl rfl ?_
 refine B4 rfl rfl (D4 rfl rfl rfl) (fun hc => B3 1 rfl B8 rfl M7 (A0 rfl) rfl) ?_
 refine B4 rfl rfl (D4 rfl rfl rfl) (fun hc => B1 1 rfl (B0 rfl hc) rfl P5 rfl) ?_
 refine B4 rfl rfl (D4 rfl rfl rfl) (fun hc => B3 1 rfl B8 rfl M7 (A0 rfl) rfl) ?_
 refine B4 rfl rfl (D4 rfl rfl rfl) (fun hc => B1 0 rfl (B0 rfl hc) rfl P5 rfl) ?_
 refine B4 rfl rfl (D4 rfl rfl rfl) (fun hc => E5 rfl Tryz.call87 rfl (AZ1 a.Cells b.Cells (by omega)) (A9 (B0 rfl hc) (A9 (B0 rfl hc) D1))) ?_
 refine B4 rfl rfl (D4 rfl rfl rfl) (fun hc => M2 rfl (B0 rfl hc)) ?_
 refine A1 rfl rfl rfl (Q4 rfl (A0 rfl) (G4 rfl)) ?_
 refine A5 rfl rfl rfl rfl rfl ?_
 refine B4 rfl rfl (D4 rfl rfl rfl) (fun hc => B3 2 rfl B8 rfl E9 (A0 rfl) rfl) ?_
 refine B4 rfl rfl (D4 rfl rfl rfl) (fun hc => B1 1 rfl (B0 rfl hc) rfl I3 rfl) ?_
 refine B4 rfl rfl (D4 rfl rfl rfl) (fun hc => G9 rfl C9 (B0 rfl hc)) ?_
 refine B4 rfl rfl (D4 rfl rfl rfl) (fun hc => B3 2 rfl B8 rfl E9 (A0 rfl) rfl) ?_
 refine B4 rfl rfl (D4 rfl rfl rfl) (fun hc => B1 0 rfl (B0 rfl hc) rfl I3 rfl) ?_
 refine B4 rfl rfl (D4 rfl rfl rfl) (fun hc => G9 rfl C9 (B0 rfl hc)) ?_
 refine B4 rfl rfl (D4 rfl rfl rfl) (fun hc => g8 rfl (B0 rfl hc) (B0 rfl hc)) ?_
 refine A1 rfl rfl rfl (Q4 rfl (A0 rfl) (G4 rfl)) ?_
 refine A5 rfl rfl rfl rfl rfl ?_
 refine B4 rfl rfl (D4 rfl rfl rfl) (fun hc => B3 3 rfl B8 rfl J3 (A0 rfl) rfl) ?_
 refine B4 rfl rfl (D4 rfl rfl rfl) (fun hc => B1 1 rfl (B0 rfl hc) rfl O0 rfl) ?_
 refine B4 rfl rfl (D4 rfl rfl rfl) (fun hc => G9 rfl E3 (B0 rfl hc)) ?_
 refine B4 rfl rfl (D4 rfl rfl rfl) (fun hc => B3 3 rfl B8 rfl J3 (A0 rfl) rfl) ?_
 refine B4 rfl rfl (D4 rfl rfl rfl) (fun hc => B1 0 rfl (B0 rfl hc) rfl O0 rfl) ?_
 refine B4 rfl rfl (D4 rfl rfl rfl) (fun hc => G9 rfl E3 (B0 rfl hc)) ?_
 refine B4 rfl rfl (D4 rfl rfl rfl) (fun hc => g8 rfl (B0 rfl hc) (B0 rfl hc)) ?_
 refine A1 rfl rfl rfl (Q4 rfl (A0 rfl) (G4 rfl)) ?_
 refine A4 ?_
 refine C7 (A0 rfl) ?_ ?_
 ·intro h37
  have hne : decide (a = b) = false := decide_eq_false fun e => by (subst e; simp at h37)
  rw [hne]
  refine A3 (A2 ?_)
  refine A1 rfl rfl rfl (C3 rfl F4) ?_
  refine A4 ?_
  refine C8 ?_
  exact H9 rfl (C5 rfl (by rfl))
 ·intro h37
  have hfa : a.Floor = b.Floor ∧ a.Cells = b.Cells ∧ a.Held.length = b.Held.length ∧ a.Told.length = b.Told.length := by (simp only [Bool.or_eq_false_iff, A6] at h37; simp at h37; exact ⟨h37.1.1.1, h37.1.1.2, by omega, by omega⟩)
  refine D2 (A3 (A3 (A2 ?_)))
  refine A1 rfl rfl rfl (B3 2 rfl B8 rfl E9 (A0 rfl) rfl) ?_
  refine A1 rfl rfl rfl (B1 1 rfl (A0 rfl) rfl I3 rfl) ?_
  refine A1 rfl rfl rfl (G9 rfl C9 (A0 rfl)) ?_
  refine A1 rfl rfl rfl (C6 rfl C4) ?_
  refine A4 (D7 ?_)
  refine J9 [(2, _), (3, _), (40, _)] _ (fun (i : Nat) => i ≤ a.Held.length ∧ a.Held.take i = b.Held.take i) (fun (i : Nat) => []) (fun (i : Nat) => [(41, AV.int i)]) (fun (i : Nat) => a.Held.length - i) (0) ?_ (J8 ⟨rfl, rfl, rfl, rfl, trivial⟩) ?_
  ·exact ⟨Nat.zero_le _, rfl⟩
  intro i hinv
  refine A3 (A2 ?_)
  refine A1 rfl rfl rfl (K6 rfl (A0 rfl) (A0 rfl)) ?_
  refine A4 (A3 ?_)
  refine C7 (A0 rfl) ?_ ?_
  ·intro h42
   have k42 := of_decide_eq_true h42; try simp only [A6] at k42
   have hlt : i < a.Held.length := by omega
   obtain ⟨x, hx⟩ := get_some hlt
   obtain ⟨y, hy⟩ := get_some (show i < b.Held.length by omega)
   refine D2 (A3 (D7 (A3 (A2 ?_))))
   refine A5 rfl rfl rfl rfl rfl ?_
   refine B9 rfl rfl rfl rfl rfl ?_
   refine A4 (A3 ?_)
   refine K3 (by kernel_rfl) (by kernel_rfl) rfl ?_
   refine B5 rfl rfl (B3 2 rfl B8 rfl E9 (A0 rfl) rfl) ?_
   refine B5 rfl rfl (B1 1 rfl (A0 rfl) rfl I3 rfl) ?_
   refine B5 rfl rfl (C6 rfl (A0 rfl)) ?_
   refine B5 rfl rfl (I7 rfl C9 D3 (A0 rfl) (A0 rfl) hx (by first | omega | (simp only [A6, A7, B2, B7, A8, szR] at *; omega))) ?_
   refine B5 rfl rfl (K4 rfl (A0 rfl) I0 D3) ?_
   refine B5 rfl rfl (E5 rfl Tryz.call89 rfl (AA8 _) (A9 (A0 rfl) D1)) ?_
   refine B5 rfl rfl (B3 2 rfl B8 rfl E9 (A0 rfl) rfl) ?_
   refine B5 rfl rfl (B1 0 rfl (A0 rfl) rfl I3 rfl) ?_
   refine B5 rfl rfl (C6 rfl (A0 rfl)) ?_
   refine B5 rfl rfl (I7 rfl C9 D3 (A0 rfl) (A0 rfl) hy (by first | omega | (simp only [A6, A7, B2, B7, A8, szR] at *; omega))) ?_
   refine B5 rfl rfl (K4 rfl (A0 rfl) I0 D3) ?_
   refine B5 rfl rfl (E5 rfl Tryz.call89 rfl (AA8 _) (A9 (A0 rfl) D1)) ?_
   refine B5 rfl rfl (E5 rfl Tryz.call88 rfl (Ah7 (hRec x) (hRec y)) (A9 (A0 rfl) (A9 (A0 rfl) D1))) ?_
   refine B5 rfl rfl (M2 rfl (A0 rfl)) ?_
   refine O1 ?_
   refine C7 (A0 rfl) ?_ ?_
   ·intro h57
    have hne : decide (a = b) = false := decide_eq_false fun e => by (subst e; rw [hx] at hy; injection hy with hy; subst hy; simp at h57)
    rw [hne]
    refine A3 (A2 ?_)
    refine A1 rfl rfl rfl (C3 rfl F4) ?_
    refine A4 ?_
    refine C8 ?_
    exact H9 rfl (C5 rfl (by rfl))
   ·intro h57
    refine D2 (A2 ?_)
    refine A1 rfl rfl rfl (G7 rfl (A0 rfl) C4 (by first | omega | (simp only [A6, A7, B2, B7, A8, szR] at *; omega))) ?_
    refine A5 rfl rfl rfl rfl rfl ?_
    refine A4 ?_
    refine L4 i (i + 1) ?_ ?_ (J8 ⟨rfl, rfl, rfl, rfl, trivial⟩)
    ·exact ⟨by omega, i4 hinv.2 hx (by rw [hy]; congr 1; rw [Ar6] at h57; simpa using (by simpa using h57 : x = y).symm)⟩
    ·omega
  ·intro h42
   have k42 := of_decide_eq_false h42; try simp only [A6] at k42
   have hge : a.Held.length ≤ i := by omega
   have hhe : a.Held = b.Held := n8 hfa.2.2.1 hinv.2 hge
   refine H3 ?_
   refine A3 (A3 (A2 ?_))
   refine A1 rfl rfl rfl (B3 3 rfl B8 rfl J3 (A0 rfl) rfl) ?_
   refine A1 rfl rfl rfl (B1 1 rfl (A0 rfl) rfl O0 rfl) ?_
   refine A1 rfl rfl rfl (G9 rfl E3 (A0 rfl)) ?_
   refine A1 rfl rfl rfl (C6 rfl C4) ?_
   refine A4 (D7 ?_)
   refine J9 [(2, _), (3, _), (61, _)] _ (fun (q : Nat) => q ≤ a.Told.length ∧ a.Told.take q = b.Told.take q) (fun (q : Nat) => []) (fun (q : Nat) => [(62, AV.int q)]) (fun (q : Nat) => a.Told.length - q) (0) ?_ (J8 ⟨rfl, rfl, rfl, rfl, trivial⟩) ?_
   ·exact ⟨Nat.zero_le _, rfl⟩
   intro q hinv
   refine A3 (A2 ?_)
   refine A1 rfl rfl rfl (K6 rfl (A0 rfl) (A0 rfl)) ?_
   refine A4 (A3 ?_)
   refine C7 (A0 rfl) ?_ ?_
   ·intro h63
    have k63 := of_decide_eq_true h63; try simp only [A6] at k63
    have hlt : q < a.Told.length := by omega
    obtain ⟨x, hx⟩ := get_some hlt
    obtain ⟨y, hy⟩ := get_some (show q < b.Told.length by omega)
    refine D2 (A3 (D7 (A3 (A2 ?_))))
    refine A5 rfl rfl rfl rfl rfl ?_
    refine B9 rfl rfl rfl rfl rfl ?_
    refine A4 (A3 ?_)
    refine K3 (by kernel_rfl) (by kernel_rfl) rfl ?_
    refine B5 rfl rfl (B3 3 rfl B8 rfl J3 (A0 rfl) rfl) ?_
    refine B5 rfl rfl (B1 1 rfl (A0 rfl) rfl O0 rfl) ?_
    refine B5 rfl rfl (C6 rfl (A0 rfl)) ?_
    refine B5 rfl rfl (I7 rfl E3 H2 (A0 rfl) (A0 rfl) hx (by first | omega | (simp only [A6, A7, B2, B7, A8, szR] at *; omega))) ?_
    refine B5 rfl rfl (K4 rfl (A0 rfl) V2 H2) ?_
    refine B5 rfl rfl (B3 3 rfl B8 rfl J3 (A0 rfl) rfl) ?_
    refine B5 rfl rfl (B1 0 rfl (A0 rfl) rfl O0 rfl) ?_
    refine B5 rfl rfl (C6 rfl (A0 rfl)) ?_
    refine B5 rfl rfl (I7 rfl E3 H2 (A0 rfl) (A0 rfl) hy (by first | omega | (simp only [A6, A7, B2, B7, A8, szR] at *; omega))) ?_
    refine B5 rfl rfl (K4 rfl (A0 rfl) V2 H2) ?_
    refine B5 rfl rfl (AX5 rfl K0 (by kernel_rfl) (by kernel_rfl) (A0 rfl) (A0 rfl) (c4 (by kernel_rfl) D0 rfl rfl (Ab1 Q6) (c4 (by kernel_rfl) L0 rfl rfl (AI7 T4) (c4 (by kernel_rfl) D0 rfl rfl (Ab1 Q6) AQ8)))) ?_
    refine O1 ?_
    refine C7 (A0 rfl) ?_ ?_
    ·intro h75
     have hne : decide (a = b) = false := decide_eq_false fun e => by (subst e; rw [hx] at hy; injection hy with hy; subst hy; rw [Ao9] at h75; simp at h75)
     rw [hne]
     refine A3 (A2 ?_)
     refine A1 rfl rfl rfl (C3 rfl F4) ?_
     refine A4 ?_
     refine C8 ?_
     exact H9 rfl (C5 rfl (by rfl))
    ·intro h75
     refine D2 (A2 ?_)
     refine A1 rfl rfl rfl (G7 rfl (A0 rfl) C4 (by first | omega | (simp only [A6, A7, B2, B7, A8, szR] at *; omega))) ?_
     refine A5 rfl rfl rfl rfl rfl ?_
     refine A4 ?_
     refine L4 q (q + 1) ?_ ?_ (J8 ⟨rfl, rfl, rfl, rfl, trivial⟩)
     ·exact ⟨by omega, i4 hinv.2 hx (by rw [hy]; congr 1; rw [Ao9] at h75; simpa using (by simpa using h75 : x = y).symm)⟩
     ·omega
   ·intro h63
    have k63 := of_decide_eq_false h63; try simp only [A6] at k63
    have hge : a.Told.length ≤ q := by omega
    have hte : a.Told = b.Told := n8 hfa.2.2.2 hinv.2 hge
    have hye : decide (a = b) = true := decide_eq_true (by (obtain ⟨e1, e2, _⟩ := hfa; cases a; cases b; simp only [TState.mk.injEq]; exact ⟨e1, e2, hhe, hte⟩))
    rw [hye]
    refine H3 ?_
    refine A3 (A2 ?_)
    refine A1 rfl rfl rfl (C3 rfl F4) ?_
    refine A4 ?_
    refine C8 ?_
    exact H9 rfl (C5 rfl (by rfl))
end Go.Proofs.YtnlhbdkcgaeimaaGreat

set_option linter.unusedVariables false
set_option linter.unusedSimpArgs false
set_option maxRecDepth 100000
set_option maxHeartbeats 1000000
namespace Go.Proofs.YtnlhbdkcgaeimaaGreat
open Go Go.AV Go.M
attribute [local irreducible] OpW OpA OpS AWP FSpec ESpec GSpec OpE RetOk RetOkG RvDen Le Ev GuardIs SrcIs Int.tmod IntKind.wrap bandI
theorem Ay1 (b : Nat) (code : List Int) (hcode : ByteL code) (c : TCur) (hp : c.p ≤ 6000000) : GSpec Tryz.prog 291 [AV.ptr b 0] [.box b 127 (curC code c)] (fun x : TCur × Str => x.1.p ≤ c.p + 2 ∧ x.2.length ≤ 64) (fun x => [.box b 127 (curC code x.1)]) (fun x => AV.str x.2) := by
 refine H5 Tryz.func291 rfl Tryz.ntmps291 rfl ?_
 refine A3 (A2 ?_)
 refine A1 rfl rfl rfl (C3 rfl (S1 (l := []) rfl)) ?_
 refine A4 (A3 (A2 ?_))
 refine A5 rfl rfl rfl rfl rfl ?_
 refine A1 rfl rfl rfl (L9 rfl E4 F5 Tryz.zeroValue9 rfl rfl rfl rfl (E0 (S1 (l := []) rfl) (P6 _) (E0 (S1 (l := [49]) rfl) (P6 _) (E0 (S1 (l := [55]) rfl) (P6 _) (E0 (S1 (l := [49, 48]) rfl) (P6 _) (E0 (S1 (l := [45, 51]) rfl) (P6 _) (E0 (S1 (l := [120]) rfl) (P6 _) (E0 (S1 (l := [97, 44, 98, 95, 99]) rfl) (P6 _) H6))))))) rfl rfl) ?_
 refine I2 [0] rfl rfl rfl rfl Tryz.call151 rfl (Ag1 _ _ hcode _ ([[], [49], [55], [49, 48], [45, 51], [120], [97, 44, 98, 95, 99]] : List Str) (by decide) (by omega)) (A9 (A0 rfl) (A9 (A0 rfl) D1)) rfl ?_
 intro x5 ok5
 refine B9 rfl rfl rfl rfl rfl ?_
 refine A4 ?_
 refine C8 ?_
 (refine K1 [0] ((_, _)) ?_ rfl (by first | (dsimp only; rfl) | rfl) (N1 rfl (C5 rfl (by rfl))); exact ok5)
theorem Ap0 (b : Nat) (code : List Int) (hcode : ByteL code) (c : TCur) (key : Str) (hp : c.p ≤ 5000000) : GSpec Tryz.prog 269 [AV.ptr b 0, AV.str key] [.box b 127 (curC code c)] (fun x : TCur × TWrite => x.1.p ≤ c.p + 4 ∧ x.2.Key = key ∧ x.2.Val.length ≤ 64) (fun x => [.box b 127 (curC code x.1)]) (fun x => AV.agg x.2.cs) := by
 refine H5 Tryz.func269 rfl Tryz.ntmps269 rfl ?_
 refine A3 (A2 ?_)
 refine G0 rfl rfl rfl rfl Tryz.zeroValue77 rfl ?_
 intro b4
 refine A4 (A3 (A3 (A2 ?_)))
 refine A5 rfl rfl rfl rfl rfl ?_
 refine I2 [1] rfl rfl rfl rfl Tryz.call79 rfl (AB9 _ _ hcode _ _ (by omega) (by omega)) (A9 (A0 rfl) (A9 C4 D1)) rfl ?_
 intro x6 ok6
 refine A4 ?_
 refine C7 (A0 rfl) ?_ ?_
 ·intro h6
  refine A3 (A2 ?_)
  refine A5 rfl rfl rfl rfl rfl ?_
  refine A1 rfl rfl rfl (N0 (places := #[(0, 1), (1, 1), (2, 1)]) rfl I1 Tryz.zeroValue77 (fun w => by kernel_rfl) rfl (E0 (A0 rfl) (P6 _) (E0 F4 (V3 _) H6)) rfl) ?_
  refine D5 1 rfl rfl rfl (A0 rfl) (A0 rfl) (E2 _) rfl H7 rfl ?_
  refine A4 ?_
  refine C8 ?_
  (refine K1 [0] ((_, ⟨_, _, _⟩)) ?_ rfl (by first | (dsimp only; rfl) | rfl) (N1 rfl (J6 (ys := _) 1 rfl rfl S5 H7 rfl)); (dsimp only; first | exact ⟨by omega, rfl, by simp⟩ | exact ⟨by omega, rfl, ok11.2⟩))
 ·intro h6
  refine D2 (A3 (A2 ?_))
  refine A5 rfl rfl rfl rfl rfl ?_
  refine A5 rfl rfl rfl rfl rfl ?_
  refine I2 [0] rfl rfl rfl rfl Tryz.call291 rfl (Ay1 _ _ hcode _ (by omega)) (A9 (A0 rfl) D1) rfl ?_
  intro x11 ok11
  refine A1 rfl rfl rfl (N0 (places := #[(0, 1), (1, 1), (2, 1)]) rfl I1 Tryz.zeroValue77 (fun w => by kernel_rfl) rfl (E0 (A0 rfl) (P6 _) (E0 (A0 rfl) (P6 _) H6)) rfl) ?_
  refine D5 1 rfl rfl rfl (A0 rfl) (A0 rfl) (E2 _) rfl H7 rfl ?_
  refine A4 ?_
  refine C8 ?_
  (refine K1 [0] ((_, ⟨_, _, _⟩)) ?_ rfl (by first | (dsimp only; rfl) | rfl) (N1 rfl (J6 (ys := _) 1 rfl rfl S5 H7 rfl)); (dsimp only; first | exact ⟨by omega, rfl, by simp⟩ | exact ⟨by omega, rfl, ok11.2⟩))
def keysD : List Str := [[97], [98], [99], [105, 47, 120, 47, 49], [109], [110], [114, 47, 49], [122]]
theorem BB6 {s : Str} {i : Nat} (h : keysD[i]? = some s) : s.length ≤ 5 := by
  have : ∀ s ∈ keysD, s.length ≤ 5 := by decide
  exact this s (G6 h)
theorem Ai6 (b : Nat) (code : List Int) (hcode : ByteL code) (c : TCur) (hp : c.p ≤ 3000000) : GSpec Tryz.prog 219 [AV.ptr b 0] [.box b 127 (curC code c)] (fun x : TCur × List TWrite × Value => x.1.p ≤ c.p + 48 ∧ sizeL TWrite.size x.2.1 ≤ 560) (fun x => [.box b 127 (curC code x.1), .arr x.2.2 77 3 (x.2.1.map TWrite.cs)]) (fun x => AV.is x.2.2) := by
 refine H5 Tryz.func219 rfl Tryz.ntmps219 rfl ?_
 refine A3 (A2 ?_)
 refine A1 rfl rfl rfl (C3 rfl K5) ?_
 refine A4 (A3 (A2 ?_))
 refine Q5 77 3 rfl rfl rfl rfl K5 ?_
 intro v3
 refine A4 (A3 (A3 (A2 ?_)))
 refine A1 rfl rfl rfl (L9 rfl E4 F5 Tryz.zeroValue9 rfl rfl rfl rfl (E0 (S1 (l := [97]) rfl) (P6 _) (E0 (S1 (l := [98]) rfl) (P6 _) (E0 (S1 (l := [99]) rfl) (P6 _) (E0 (S1 (l := [105, 47, 120, 47, 49]) rfl) (P6 _) (E0 (S1 (l := [109]) rfl) (P6 _) (E0 (S1 (l := [110]) rfl) (P6 _) (E0 (S1 (l := [114, 47, 49]) rfl) (P6 _) (E0 (S1 (l := [122]) rfl) (P6 _) H6)))))))) rfl rfl) ?_
 refine A1 rfl rfl rfl (G9 rfl E4 (A0 rfl)) ?_
 refine A1 rfl rfl rfl (C6 rfl C4) ?_
 refine A4 (D7 ?_)
 refine AWP.le (I8 [1, 0] rfl) ?_
 refine o7 [(0, _), (2, _), (6, _), (7, _)] _ (fun (i : Nat) (cc : TCur) (l : List TWrite) (v : Value) => i ≤ 8 ∧ cc.p ≤ c.p + 6 * i ∧ sizeL TWrite.size l ≤ 70 * i) (fun (i : Nat) (cc : TCur) (l : List TWrite) (v : Value) => [.box b 127 (curC code cc), .arr v 77 3 (l.map TWrite.cs)]) (fun (i : Nat) (cc : TCur) (l : List TWrite) (v : Value) => [(3, AV.is v), (8, AV.int i)]) (fun (i : Nat) (cc : TCur) (l : List TWrite) (v : Value) => 8 - i) (0) (c) ([]) (v3) ?_ (S7 (by rfl) ⟨rfl, rfl, rfl, rfl, rfl, rfl, trivial⟩) ?_
 ·exact ⟨by omega, by omega, by simp [sizeL]⟩
 intro i cc l v hinv
 refine A3 (A2 ?_)
 refine A1 rfl rfl rfl (K6 rfl (A0 rfl) (A0 rfl)) ?_
 refine A4 (A3 ?_)
 refine C7 (A0 rfl) ?_ ?_
 ·intro h9
  have k9 := of_decide_eq_true h9; try simp only [A6] at k9
  have hlt : i < 8 := by simp only [A8] at k9; omega
  obtain ⟨y, hy⟩ := get_some (show i < keysD.length from hlt)
  have hyl := BB6 hy
  have hyy : (keysD.map fun s => [AV.str s])[i]? = some [AV.str y] := by rw [List.getElem?_map, hy]; rfl
  have hll : l.length ≤ 560 := by have := O2 (f := TWrite.size) (l := l); omega
  refine D2 (A3 (D7 (A3 (A2 ?_))))
  refine A1 rfl rfl rfl (AE2 rfl E4 F5 (A0 rfl) (A0 rfl) (by omega) (by rw [Int.toNat_natCast]; exact hyy)) ?_
  refine A1 rfl rfl rfl (N6 rfl (A0 rfl) H1 rfl) ?_
  refine B9 rfl rfl rfl rfl rfl ?_
  refine A4 (A3 (A2 ?_))
  refine A5 rfl rfl rfl rfl rfl ?_
  refine I2 [0] rfl rfl rfl rfl Tryz.call79 rfl (AB9 _ _ hcode _ _ (by omega) (by omega)) (A9 (A0 rfl) (A9 C4 D1)) rfl ?_
  intro x13 ok13
  refine A4 ?_
  refine C7 (A0 rfl) ?_ ?_
  ·intro h13
   refine A2 ?_
   refine A5 rfl rfl rfl rfl rfl ?_
   refine A5 rfl rfl rfl rfl rfl ?_
   refine A5 rfl rfl rfl rfl rfl ?_
   refine I2 [0] rfl rfl rfl rfl Tryz.call269 rfl (Ap0 _ _ hcode _ _ (by omega)) (A9 (A0 rfl) (A9 (A0 rfl) D1)) rfl ?_
   intro x17 ok17
   refine A1 rfl rfl rfl (L9 rfl F3 H7 Tryz.zeroValue77 rfl rfl rfl rfl (E0 (A0 rfl) (E2 _) H6) rfl rfl) ?_
   refine L5 (by' := 40) 1 rfl rfl rfl rfl F3 Tryz.type77 rfl rfl rfl rfl rfl rfl (A0 rfl) (A0 rfl) rfl (by first | omega | (simp only [A6, A7, B2, B7, A8, szR] at *; omega)) ?_
   intro v19_1
   refine B9 rfl rfl rfl rfl rfl ?_
   refine A4 (A2 ?_)
   refine A1 rfl rfl rfl (G7 rfl (A0 rfl) C4 (by first | omega | (simp only [A6, A7, B2, B7, A8, szR] at *; omega))) ?_
   refine A5 rfl rfl rfl rfl rfl ?_
   refine A4 ?_
   refine X1 i cc l v (i + 1) (x17.1) (l ++ [x17.2]) (v19_1) ?_ ?_ (Le.trans (I8 [0, 0] rfl) (S7 (by first | rfl | (rw [List.map_append]; rfl)) ⟨rfl, rfl, rfl, rfl, rfl, rfl, trivial⟩))
   ·exact ⟨by omega, by omega, by (have h9 : x17.2.size ≤ 69 := by unfold TWrite.size; rw [ok17.2.1]; omega); rw [show sizeL TWrite.size (l ++ [x17.2]) = sizeL TWrite.size l + x17.2.size + 1 from by unfold sizeL; simp; omega]; omega⟩
   ·omega
  ·intro h13
   refine D2 (A2 ?_)
   refine A1 rfl rfl rfl (G7 rfl (A0 rfl) C4 (by first | omega | (simp only [A6, A7, B2, B7, A8, szR] at *; omega))) ?_
   refine A5 rfl rfl rfl rfl rfl ?_
   refine A4 ?_
   refine X1 i cc l v (i + 1) (x13.1) (l) (v) ?_ ?_ (Le.trans (I8 [0, 0] rfl) (S7 (by first | rfl | (rw [List.map_append]; rfl)) ⟨rfl, rfl, rfl, rfl, rfl, rfl, trivial⟩))
   ·exact ⟨by omega, by omega, by omega⟩
   ·omega
 ·intro h9
  have k9 := of_decide_eq_false h9; try simp only [A6] at k9
  refine H3 ?_
  refine A3 (A2 ?_)
  refine A5 rfl rfl rfl rfl rfl ?_
  refine B9 rfl rfl rfl rfl rfl ?_
  refine A4 ?_
  refine C8 ?_
  (refine K1 [0, 0] ((cc, l, v)) ?_ rfl (by first | (dsimp only; rfl) | rfl) (N1 rfl (C5 rfl (by rfl))); exact ⟨show cc.p ≤ _ by omega, show sizeL TWrite.size l ≤ _ by omega⟩)
end Go.Proofs.YtnlhbdkcgaeimaaGreat
