/- Texts of the claim, part 6. -/
import Derived.Test.YtnlhbdkcgaeimaaGreatZPrepared5

set_option linter.unusedVariables false
set_option linter.unusedSimpArgs false
set_option maxRecDepth 100000
set_option maxHeartbeats 1000000
namespace Go.M
open Go.AV
theorem fullC_at {l : List TCell} {k : Str} {c : TCell} (hc : ¬ atC l k < 0 → findC l k = some c) : fullC l k = (decide ((0 : Int) ≤ atC l k) && decide ((16 : Int) ≤ (c.Vers.length : Int))) := by
  unfold fullC
  by_cases h : atC l k < 0
  · rw [Aq3 h, decide_eq_false (by omega)]; rfl
  · rw [hc h, decide_eq_true (by omega), Bool.true_and]
    dsimp only
    rw [decide_eq_decide]; omega
theorem at_some (l : List TCell) (k : Str) : ∃ c : TCell, ¬ atC l k < 0 → (∃ p : Nat, atC l k = (p : Int) ∧ l[p]? = some c) ∧ findC l k = some c := by
  by_cases h : atC l k < 0
  · exact ⟨⟨[], []⟩, fun k => absurd h k⟩
  · obtain ⟨p, c, h1, h2, h3⟩ := Aq4 h
    exact ⟨c, fun _ => ⟨⟨p, h1, h2⟩, h3⟩⟩
theorem AA7 {s : TState} {i : Nat} {h y : THeld} (hx : s.Held[i]? = some h) (hy : s.Held[i - 1]? = some y) : heldAt s i = (!((!l4Good (hRec h) || decide (s.Floor < h.Time)) || (decide ((0 : Int) < (i : Int)) && decide (h.Txn ≤ y.Txn))) && ((s.Held.take i).all (fun g => apart g h.Reads h.Writes) && h.Writes.all fun w => decide (lastTime s.Cells w.Key < h.Time))) := by
  rw [y6 hx hy, AH4]
  have h2 : ((s.Held.take i).all fun g => apart g h.Reads h.Writes) = !((s.Held.take i).any fun g => clash h g) := by
    rw [List.not_any_eq_all_not]; congr 1; funext g; rw [AE5, Bool.not_not]
  have h3 : (h.Writes.all fun w => decide (lastTime s.Cells w.Key < h.Time)) = !(h.Writes.any fun w => decide (h.Time ≤ lastTime s.Cells w.Key)) := by
    rw [List.not_any_eq_all_not]; congr 1; funext w; rw [← decide_not, decide_eq_decide]; omega
  rw [h2, h3]
theorem AI8 {s : TState} {i : Nat} {t y : TTold} (hx : s.Told[i]? = some t) (hy : s.Told[i - 1]? = some y) : toldAt s i = (!((((!within t.Txn 1 60 || (decide ((0 : Int) < (i : Int)) && decide (t.Txn ≤ y.Txn))) || (t.Yes && !within t.Time 1 s.Floor)) || (!t.Yes && (t.Time != 0)))) && !hasH s.Held t.Txn) := by
  rw [AD6 hx hy]
  congr 2
  show ((!within t.Txn 1 60 || _) || _) = _
  have e : (!((t.Yes && within t.Time 1 s.Floor) || (!t.Yes && (t.Time == 0)))) = ((t.Yes && !within t.Time 1 s.Floor) || (!t.Yes && (t.Time != 0))) := by
    show _ = ((t.Yes && !within t.Time 1 s.Floor) || (!t.Yes && !(t.Time == 0)))
    cases t.Yes <;> simp
  rw [e]
  cases within t.Txn 1 60 <;> cases (decide ((0 : Int) < (i : Int)) && decide (t.Txn ≤ y.Txn)) <;> cases (t.Yes && !within t.Time 1 s.Floor) <;> cases (!t.Yes && (t.Time != 0)) <;> rfl
def heldFO (l : List THeld) (n : Int) : THeld × Bool := match findH l n with | some h => (h, true) | none => (zHeld, false)
def toldFO (l : List TTold) (n : Int) : TTold × Bool := match findT l n with | some h => (h, true) | none => (zTold, false)
theorem AN4 (l : List THeld) (n : Int) : (heldFO l n).2 = hasH l n := by
  unfold heldFO
  cases h : findH l n with
  | none => exact (r3.1 h).symm
  | some x => obtain ⟨h1, h2⟩ := AI3 h; exact (Aj0.2 ⟨x, h1, h2⟩).symm
theorem Ax9 (l : List TTold) (n : Int) : (toldFO l n).2 = hasT l n := by
  unfold toldFO
  cases h : findT l n with
  | none => exact (AW9.1 h).symm
  | some x =>
    unfold findT at h
    exact (Aj1.2 ⟨x, List.mem_of_find?_eq_some h, by simpa using List.find?_some h⟩).symm
theorem AA8 {α : Type} {p : α → Bool} : ∀ {l : List α} {i : Nat} {x : α}, l[i]? = some x → p x = true → (∀ j y, j < i → l[j]? = some y → p y = false) → l.find? p = some x
  | [], i, x, h, _, _ => by simp at h
  | y :: l, 0, x, h, hp, _ => by simp at h; subst h; rw [List.find?_cons, hp]
  | y :: l, i + 1, x, h, hp, hn => by
    rw [List.find?_cons, hn 0 y (by omega) rfl]
    exact AA8 (by simpa using h) hp fun j z hj hz => hn (j + 1) z (by omega) (by simpa using hz)
theorem AT5 {α : Type} {p : α → Bool} {l : List α} (hn : ∀ (j : Nat) (y : α), l[j]? = some y → p y = false) : l.find? p = none := by
  rw [List.find?_eq_none]
  intro x hx
  obtain ⟨j, hj⟩ := List.getElem?_of_mem hx
  rw [hn j x hj]; decide
end Go.M
namespace Go.Proofs.YtnlhbdkcgaeimaaGreat
open Go Go.AV Go.M
attribute [local irreducible] OpW OpA OpS AWP FSpec ESpec GSpec OpE RetOk RetOkG RvDen Le Ev GuardIs SrcIs Int.tmod Int.tdiv IntKind.wrap
theorem Af9 (h : THeld) : FSpec Tryz.prog 89 [AV.agg h.cs] (AV.agg (hRec h).cs) := by
 refine E7 Tryz.func89 rfl Tryz.ntmps89 rfl ?_
 refine A3 (A2 ?_)
 refine L9 rfl rfl rfl rfl (A0 rfl) ?_
 intro b1
 refine G5 rfl rfl rfl rfl Tryz.zeroValue49 rfl ?_
 intro b2
 refine A4 (A3 (A2 ?_))
 refine A1 rfl rfl rfl (B4 0 rfl F1 rfl C1 (A0 rfl) rfl) ?_
 refine A1 rfl rfl rfl (B3 1 rfl (A0 rfl) rfl D1 rfl) ?_
 refine A1 rfl rfl rfl (B4 1 rfl F1 rfl C1 (A0 rfl) rfl) ?_
 refine A1 rfl rfl rfl (B3 1 rfl (A0 rfl) rfl D1 rfl) ?_
 refine A1 rfl rfl rfl (B4 2 rfl F1 rfl C1 (A0 rfl) rfl) ?_
 refine A1 rfl rfl rfl (B3 1 rfl (A0 rfl) rfl D1 rfl) ?_
 refine A1 rfl rfl rfl (B4 3 rfl F1 rfl M3 (A0 rfl) rfl) ?_
 refine A1 rfl rfl rfl (B3 1 rfl (A0 rfl) rfl P3 rfl) ?_
 refine A1 rfl rfl rfl (B4 4 rfl F1 rfl K4 (A0 rfl) rfl) ?_
 refine A1 rfl rfl rfl (B3 1 rfl (A0 rfl) rfl L7 rfl) ?_
 refine A1 rfl rfl rfl (M7 (places := #[(0, 1), (1, 1), (2, 1), (3, 1), (4, 1), (5, 1), (6, 1)]) rfl B8 Tryz.zeroValue49 (fun w => by kernel_rfl) rfl (D7 C2 (K6 _ _) (D7 (A0 rfl) (K6 _ _) (D7 (A0 rfl) (K6 _ _) (D7 (A0 rfl) (K6 _ _) (D7 (A0 rfl) (T0 _ _) (D7 (A0 rfl) (T0 _ _) H6)))))) rfl) ?_
 refine D9 0 rfl rfl rfl (A0 rfl) (A0 rfl) (E9 _) rfl H5 rfl ?_
 refine A4 ?_
 refine C7 ?_
 exact I2 rfl (J9 (ys := _) 0 rfl rfl N3 H5 rfl)
theorem AX2 (l : List TWrite) (k : Str) : FSpec Tryz.prog 218 [AV.list 3 (l.map TWrite.cs), AV.str k] (AV.bool (hasK l k)) := by
 refine E7 Tryz.func218 rfl Tryz.ntmps218 rfl ?_
 refine U9 (t := 0) rfl fun hl => ?_
 try simp only [A6] at hl
 refine A3 (A2 ?_)
 refine A1 rfl rfl rfl (C0 rfl F3) ?_
 refine A4 (A3 (A3 (A2 ?_)))
 refine A5 rfl rfl rfl rfl rfl ?_
 refine A1 rfl rfl rfl (I5 rfl F7 (A0 rfl)) ?_
 refine A1 rfl rfl rfl (C6 rfl C2) ?_
 refine A4 (E1 ?_)
 refine K8 [(1, _), (7, _), (8, _)] _ (fun (i : Nat) => i ≤ l.length ∧ hasK l k = (l.drop i).any (fun w => w.Key == k)) (fun (i : Nat) => []) (fun (i : Nat) => [(9, AV.int i)]) (fun (i : Nat) => l.length - i) (0) ?_ (L0 ⟨rfl, rfl, rfl, rfl, trivial⟩) ?_
 ·exact ⟨Nat.zero_le _, rfl⟩
 intro i hinv
 refine A3 (A2 ?_)
 refine A1 rfl rfl rfl (L4 rfl (A0 rfl) (A0 rfl)) ?_
 refine A4 (A3 ?_)
 refine C8 (A0 rfl) ?_ ?_
 ·intro h10
  have k10 := of_decide_eq_true h10; try simp only [A6] at k10
  have hlt : i < l.length := by omega
  obtain ⟨x, hx⟩ := get_some hlt
  refine D2 (A3 (E1 (A3 (A2 ?_))))
  refine A1 rfl rfl rfl (K0 rfl F7 H4 (A0 rfl) (A0 rfl) hx (by first | omega | (simp only [A6, A8, B2, B6, A9, szR] at *; omega))) ?_
  refine A1 rfl rfl rfl (L8 rfl (A0 rfl) S5 H4) ?_
  refine G5 rfl rfl rfl rfl Tryz.zeroValue77 rfl ?_
  intro b6
  refine D9 0 rfl rfl rfl (A0 rfl) (A0 rfl) (E9 _) rfl H4 rfl ?_
  refine A4 (A3 (A2 ?_))
  refine A1 rfl rfl rfl (B4 0 rfl G8 rfl E8 (A0 rfl) rfl) ?_
  refine A1 rfl rfl rfl (B3 0 rfl (A0 rfl) rfl H2 rfl) ?_
  refine A5 rfl rfl rfl rfl rfl ?_
  refine A1 rfl rfl rfl (w4 rfl (A0 rfl) (A0 rfl)) ?_
  refine A4 ?_
  refine C8 (A0 rfl) ?_ ?_
  ·intro h16
   refine A3 (A2 ?_)
   refine A1 rfl rfl rfl (C0 rfl F3) ?_
   refine A4 ?_
   refine C7 ?_
   exact I2 rfl (C3 rfl (by first | exact congrArg AV.bool (by rw [hinv.2, drop_some hx, List.any_cons, h16]; rfl) | exact congrArg AV.bool (by rw [hinv.2, List.drop_eq_nil_of_le hge]; rfl)))
  ·intro h16
   refine D2 (A2 ?_)
   refine A1 rfl rfl rfl (H0 rfl (A0 rfl) C2 (by first | omega | (simp only [A6, A8, B2, B6, A9, szR] at *; omega))) ?_
   refine A5 rfl rfl rfl rfl rfl ?_
   refine A4 ?_
   refine N0 i (i + 1) ?_ ?_ (U4 1 ⟨rfl, rfl, rfl, rfl, trivial⟩)
   ·exact ⟨by omega, by rw [hinv.2, drop_some hx, List.any_cons, h16]; rfl⟩
   ·omega
 ·intro h10
  have k10 := of_decide_eq_false h10; try simp only [A6] at k10
  have hge : l.length ≤ i := by omega
  refine I1 ?_
  refine A3 (A2 ?_)
  refine A1 rfl rfl rfl (C0 rfl F3) ?_
  refine A4 ?_
  refine C7 ?_
  exact I2 rfl (C3 rfl (by first | exact congrArg AV.bool (by rw [hinv.2, drop_some hx, List.any_cons, h16]; rfl) | exact congrArg AV.bool (by rw [hinv.2, List.drop_eq_nil_of_le hge]; rfl)))
theorem Au1 (l : List Str) (k : Str) : FSpec Tryz.prog 270 [strs l, AV.str k] (AV.bool (hasS l k)) := by
 refine E7 Tryz.func270 rfl Tryz.ntmps270 rfl ?_
 refine U9 (t := 0) rfl fun hl => ?_
 try simp only [A6] at hl
 refine A3 (A2 ?_)
 refine A1 rfl rfl rfl (C0 rfl F3) ?_
 refine A4 (A3 (A3 (A2 ?_)))
 refine A5 rfl rfl rfl rfl rfl ?_
 refine A1 rfl rfl rfl (I5 rfl E3 (A0 rfl)) ?_
 refine A1 rfl rfl rfl (C6 rfl C2) ?_
 refine A4 (E1 ?_)
 refine K8 [(1, _), (7, _), (8, _)] _ (fun (i : Nat) => i ≤ l.length ∧ hasS l k = (l.drop i).any (fun x => k == x)) (fun (i : Nat) => []) (fun (i : Nat) => [(9, AV.int i)]) (fun (i : Nat) => l.length - i) (0) ?_ (L0 ⟨rfl, rfl, rfl, rfl, trivial⟩) ?_
 ·exact ⟨Nat.zero_le _, rfl⟩
 intro i hinv
 refine A3 (A2 ?_)
 refine A1 rfl rfl rfl (L4 rfl (A0 rfl) (A0 rfl)) ?_
 refine A4 (A3 ?_)
 refine C8 (A0 rfl) ?_ ?_
 ·intro h10
  have k10 := of_decide_eq_true h10; try simp only [A6] at k10
  have hlt : i < l.length := by omega
  obtain ⟨x, hx⟩ := get_some hlt
  refine D2 (A3 (E1 (A3 (A2 ?_))))
  refine A1 rfl rfl rfl (K0 rfl E3 E8 (A0 rfl) (A0 rfl) hx (by first | omega | (simp only [A6, A8, B2, B6, A9, szR] at *; omega))) ?_
  refine A1 rfl rfl rfl (O8 rfl (A0 rfl) H2 rfl) ?_
  refine B5 rfl rfl rfl rfl rfl ?_
  refine A4 (A3 (A2 ?_))
  refine A5 rfl rfl rfl rfl rfl ?_
  refine A5 rfl rfl rfl rfl rfl ?_
  refine A1 rfl rfl rfl (w4 rfl (A0 rfl) (A0 rfl)) ?_
  refine A4 ?_
  refine C8 (A0 rfl) ?_ ?_
  ·intro h15
   refine A3 (A2 ?_)
   refine A1 rfl rfl rfl (C0 rfl F3) ?_
   refine A4 ?_
   refine C7 ?_
   exact I2 rfl (C3 rfl (by first | exact congrArg AV.bool (by rw [hinv.2, drop_some hx, List.any_cons, show (k == x) = true from by have h9 := h15; simp at h9 ⊢; exact h9.symm]; rfl) | exact congrArg AV.bool (by rw [hinv.2, List.drop_eq_nil_of_le hge]; rfl)))
  ·intro h15
   refine D2 (A2 ?_)
   refine A1 rfl rfl rfl (H0 rfl (A0 rfl) C2 (by first | omega | (simp only [A6, A8, B2, B6, A9, szR] at *; omega))) ?_
   refine A5 rfl rfl rfl rfl rfl ?_
   refine A4 ?_
   refine N0 i (i + 1) ?_ ?_ (L0 ⟨rfl, rfl, rfl, rfl, trivial⟩)
   ·exact ⟨by omega, by rw [hinv.2, drop_some hx, List.any_cons, show (k == x) = false from by have h9 := h15; simp at h9 ⊢; exact fun e => h9 e.symm]; rfl⟩
   ·omega
 ·intro h10
  have k10 := of_decide_eq_false h10; try simp only [A6] at k10
  have hge : l.length ≤ i := by omega
  refine I1 ?_
  refine A3 (A2 ?_)
  refine A1 rfl rfl rfl (C0 rfl F3) ?_
  refine A4 ?_
  refine C7 ?_
  exact I2 rfl (C3 rfl (by first | exact congrArg AV.bool (by rw [hinv.2, drop_some hx, List.any_cons, show (k == x) = true from by have h9 := h15; simp at h9 ⊢; exact h9.symm]; rfl) | exact congrArg AV.bool (by rw [hinv.2, List.drop_eq_nil_of_le hge]; rfl)))
theorem apart_spec (h : THeld) (rs : List Str) (ws : List TWrite) : FSpec Tryz.prog 222 [AV.agg h.cs, strs rs, AV.list 3 (ws.map TWrite.cs)] (AV.bool (apart h rs ws)) := by
 refine E7 Tryz.func222 rfl Tryz.ntmps222 rfl ?_
 refine U9 (t := 1) rfl fun hl1 => ?_
 try simp only [A6] at hl1
 refine U9 (t := 2) rfl fun hl2 => ?_
 try simp only [A6] at hl2
 refine A3 (A2 ?_)
 refine L9 rfl rfl rfl rfl (A0 rfl) ?_
 intro b3
 refine A1 rfl rfl rfl (C0 rfl F3) ?_
 refine A4 (A3 (A3 (A2 ?_)))
 refine A5 rfl rfl rfl rfl rfl ?_
 refine A1 rfl rfl rfl (I5 rfl E3 (A0 rfl)) ?_
 refine A1 rfl rfl rfl (C6 rfl C2) ?_
 refine A4 (E1 ?_)
 refine K8 [(2, _), (3, _), (11, _), (12, _)] _ (fun (i : Nat) => i ≤ rs.length ∧ (rs.all fun k => !hasK h.Writes k) = ((rs.drop i).all fun k => !hasK h.Writes k)) (fun (i : Nat) => []) (fun (i : Nat) => [(13, AV.int i)]) (fun (i : Nat) => rs.length - i) (0) ?_ (L0 ⟨rfl, rfl, rfl, rfl, rfl, trivial⟩) ?_
 ·exact ⟨Nat.zero_le _, rfl⟩
 intro i hinv
 refine A3 (A2 ?_)
 refine A1 rfl rfl rfl (L4 rfl (A0 rfl) (A0 rfl)) ?_
 refine A4 (A3 ?_)
 refine C8 (A0 rfl) ?_ ?_
 ·intro h14
  have k14 := of_decide_eq_true h14; try simp only [A6] at k14
  have hlt : i < rs.length := by omega
  obtain ⟨x, hx⟩ := get_some hlt
  refine D2 (A3 (E1 (A3 (A2 ?_))))
  refine A1 rfl rfl rfl (K0 rfl E3 E8 (A0 rfl) (A0 rfl) hx (by first | omega | (simp only [A6, A8, B2, B6, A9, szR] at *; omega))) ?_
  refine A1 rfl rfl rfl (O8 rfl (A0 rfl) H2 rfl) ?_
  refine B5 rfl rfl rfl rfl rfl ?_
  refine A4 (A3 (A2 ?_))
  refine A1 rfl rfl rfl (B4 4 rfl F1 rfl K4 (A0 rfl) rfl) ?_
  refine A1 rfl rfl rfl (B3 0 rfl (A0 rfl) rfl L7 rfl) ?_
  refine A5 rfl rfl rfl rfl rfl ?_
  refine A1 rfl rfl rfl (E5 rfl Tryz.call218 rfl (AX2 _ _) (A7 (A0 rfl) (A7 (A0 rfl) C9))) ?_
  refine A4 ?_
  refine C8 (A0 rfl) ?_ ?_
  ·intro h20
   have hfin : apart h rs ws = false := by (unfold apart; rw [hinv.2, drop_some hx, List.all_cons, h20]; rfl)
   refine A3 (A2 ?_)
   refine A1 rfl rfl rfl (C0 rfl F3) ?_
   refine A4 ?_
   refine C7 ?_
   exact I2 rfl (C3 rfl (by exact congrArg AV.bool hfin.symm))
  ·intro h20
   refine D2 (A2 ?_)
   refine A1 rfl rfl rfl (H0 rfl (A0 rfl) C2 (by first | omega | (simp only [A6, A8, B2, B6, A9, szR] at *; omega))) ?_
   refine A5 rfl rfl rfl rfl rfl ?_
   refine A4 ?_
   refine N0 i (i + 1) ?_ ?_ (L0 ⟨rfl, rfl, rfl, rfl, rfl, trivial⟩)
   ·exact ⟨by omega, by rw [hinv.2, drop_some hx, List.all_cons, h20]; rfl⟩
   ·omega
 ·intro h14
  have k14 := of_decide_eq_false h14; try simp only [A6] at k14
  have hge : rs.length ≤ i := by omega
  have hr : (rs.all fun k => !hasK h.Writes k) = true := by (rw [hinv.2, List.drop_eq_nil_of_le hge]; rfl)
  refine I1 ?_
  refine A3 (A3 (A2 ?_))
  refine A5 rfl rfl rfl rfl rfl ?_
  refine A1 rfl rfl rfl (I5 rfl F7 (A0 rfl)) ?_
  refine A1 rfl rfl rfl (C6 rfl C2) ?_
  refine A4 (E1 ?_)
  refine K8 [(3, _), (22, _), (23, _)] _ (fun (q : Nat) => q ≤ ws.length ∧ (ws.all fun w => !(hasK h.Writes w.Key || hasS h.Reads w.Key)) = ((ws.drop q).all fun w => !(hasK h.Writes w.Key || hasS h.Reads w.Key))) (fun (q : Nat) => []) (fun (q : Nat) => [(24, AV.int q)]) (fun (q : Nat) => ws.length - q) (0) ?_ (L0 ⟨rfl, rfl, rfl, rfl, trivial⟩) ?_
  ·exact ⟨Nat.zero_le _, rfl⟩
  intro q hinv
  refine A3 (A2 ?_)
  refine A1 rfl rfl rfl (L4 rfl (A0 rfl) (A0 rfl)) ?_
  refine A4 (A3 ?_)
  refine C8 (A0 rfl) ?_ ?_
  ·intro h25
   have k25 := of_decide_eq_true h25; try simp only [A6] at k25
   have hlt : q < ws.length := by omega
   obtain ⟨x, hx⟩ := get_some hlt
   refine D2 (A3 (E1 (A3 (A2 ?_))))
   refine A1 rfl rfl rfl (K0 rfl F7 H4 (A0 rfl) (A0 rfl) hx (by first | omega | (simp only [A6, A8, B2, B6, A9, szR] at *; omega))) ?_
   refine A1 rfl rfl rfl (L8 rfl (A0 rfl) S5 H4) ?_
   refine G5 rfl rfl rfl rfl Tryz.zeroValue77 rfl ?_
   intro b10
   refine D9 0 rfl rfl rfl (A0 rfl) (A0 rfl) (E9 _) rfl H4 rfl ?_
   refine A4 (A3 (A2 ?_))
   refine A1 rfl rfl rfl (B4 4 rfl F1 rfl K4 (A0 rfl) rfl) ?_
   refine A1 rfl rfl rfl (B3 1 rfl (A0 rfl) rfl L7 rfl) ?_
   refine A1 rfl rfl rfl (B4 0 rfl G8 rfl E8 (A0 rfl) rfl) ?_
   refine A1 rfl rfl rfl (B3 0 rfl (A0 rfl) rfl H2 rfl) ?_
   refine A1 rfl rfl rfl (E5 rfl Tryz.call218 rfl (AX2 _ _) (A7 (A0 rfl) (A7 (A0 rfl) C9))) ?_
   refine A5 rfl rfl rfl rfl rfl ?_
   refine B1 rfl rfl (D4 rfl rfl rfl) (fun hc => B4 3 rfl F1 rfl M3 (A0 rfl) rfl) ?_
   refine B1 rfl rfl (D4 rfl rfl rfl) (fun hc => B3 1 rfl (B0 rfl hc) rfl P3 rfl) ?_
   refine B1 rfl rfl (D4 rfl rfl rfl) (fun hc => B4 0 rfl G8 rfl E8 (A0 rfl) rfl) ?_
   refine B1 rfl rfl (D4 rfl rfl rfl) (fun hc => B3 0 rfl (B0 rfl hc) rfl H2 rfl) ?_
   refine B1 rfl rfl (D4 rfl rfl rfl) (fun hc => E5 rfl Tryz.call270 rfl (Au1 _ _) (A7 (B0 rfl hc) (A7 (B0 rfl hc) C9))) ?_
   refine A1 rfl rfl rfl (P5 rfl (A0 rfl) (G0 rfl)) ?_
   refine A4 ?_
   refine C8 (A0 rfl) ?_ ?_
   ·intro h39
    have hfin : apart h rs ws = false := by (unfold apart; rw [hinv.2, drop_some hx, List.all_cons, h39]; simp)
    refine A3 (A2 ?_)
    refine A1 rfl rfl rfl (C0 rfl F3) ?_
    refine A4 ?_
    refine C7 ?_
    exact I2 rfl (C3 rfl (by exact congrArg AV.bool hfin.symm))
   ·intro h39
    refine D2 (A2 ?_)
    refine A1 rfl rfl rfl (H0 rfl (A0 rfl) C2 (by first | omega | (simp only [A6, A8, B2, B6, A9, szR] at *; omega))) ?_
    refine A5 rfl rfl rfl rfl rfl ?_
    refine A4 ?_
    refine N0 q (q + 1) ?_ ?_ (U4 1 ⟨rfl, rfl, rfl, rfl, trivial⟩)
    ·exact ⟨by omega, by rw [hinv.2, drop_some hx, List.all_cons, h39]; rfl⟩
    ·omega
  ·intro h25
   have k25 := of_decide_eq_false h25; try simp only [A6] at k25
   have hge : ws.length ≤ q := by omega
   have hfin : apart h rs ws = true := by (unfold apart; rw [hr, hinv.2, List.drop_eq_nil_of_le hge]; rfl)
   refine I1 ?_
   refine A3 (A2 ?_)
   refine A1 rfl rfl rfl (C0 rfl F3) ?_
   refine A4 ?_
   refine C7 ?_
   exact I2 rfl (C3 rfl (by exact congrArg AV.bool hfin.symm))
theorem AX3 (s : TState) (ws : List TWrite) (hs : s.size ≤ 400000) (hw : sizeL TWrite.size ws ≤ 400000) : FSpec Tryz.prog 223 [AV.agg s.cs, AV.list 3 (ws.map TWrite.cs)] (AV.bool (room s.Cells (ws ++ hWs s.Held))) := by
 obtain ⟨hs1, hs2, hs3, hs4, hs5⟩ := R4 hs
 have hsum : sizeL TCell.size s.Cells + sizeL THeld.size s.Held ≤ 400000 := by have h9 : s.size = sizeL TCell.size s.Cells + sizeL THeld.size s.Held + s.Told.length := rfl; omega
 have hcl := O1 (f := TCell.size) (l := s.Cells)
 have hwl := O1 (f := TWrite.size) (l := ws)
 have hhl := AP2 (l := s.Held)
 obtain ⟨p, hp⟩ : ∃ p : TWrite → Bool, p = fun w => !fullC s.Cells w.Key := ⟨_, rfl⟩
 obtain ⟨al, hal⟩ : ∃ al, ws ++ hWs s.Held = al := ⟨_, rfl⟩
 have hall : al.length ≤ 800000 - s.Cells.length := by rw [← hal, H9]; omega
 rw [hal]
 refine E7 Tryz.func223 rfl Tryz.ntmps223 rfl ?_
 refine A3 (A2 ?_)
 refine L9 rfl rfl rfl rfl (A0 rfl) ?_
 intro b2
 refine A1 rfl rfl rfl (C0 rfl F3) ?_
 refine A4 (A3 (A2 ?_))
 refine P9 9 1 rfl rfl rfl rfl K1 ?_
 intro v5
 refine A4 (A3 (A3 (A2 ?_)))
 refine A1 rfl rfl rfl (B4 1 rfl C4 rfl O5 (A0 rfl) rfl) ?_
 refine A1 rfl rfl rfl (B3 1 rfl (A0 rfl) rfl Q5 rfl) ?_
 refine A1 rfl rfl rfl (I5 rfl D6 (A0 rfl)) ?_
 refine A1 rfl rfl rfl (C6 rfl C2) ?_
 refine A4 (E1 ?_)
 refine T3 [(1, _), (2, _), (4, _), (15, _), (16, _)] _ (fun (i : Nat) (v : Value) => i ≤ s.Cells.length) (fun (i : Nat) (v : Value) => [.arr v 9 1 ((putAllS (cKeys (s.Cells.take i)) []).map fun s => [AV.str s])]) (fun (i : Nat) (v : Value) => [(5, AV.is v), (17, AV.int i)]) (fun (i : Nat) (v : Value) => s.Cells.length - i) (0) (v5) ?_ (S9 (by rfl) ⟨rfl, rfl, rfl, rfl, rfl, rfl, rfl, trivial⟩) ?_
 ·exact Nat.zero_le _
 intro i v hinv
 refine A3 (A2 ?_)
 refine A1 rfl rfl rfl (L4 rfl (A0 rfl) (A0 rfl)) ?_
 refine A4 (A3 ?_)
 refine C8 (A0 rfl) ?_ ?_
 ·intro h18
  have k18 := of_decide_eq_true h18; try simp only [A6] at k18
  have hlt : i < s.Cells.length := by omega
  obtain ⟨c, hx⟩ := get_some hlt
  have hpl := AE3 (cKeys (s.Cells.take i)) []
  unfold cKeys at hpl
  simp only [A6, A8, B6] at hpl
  refine D2 (A3 (E1 (A3 (A2 ?_))))
  refine A1 rfl rfl rfl (K0 rfl D6 F2 (A0 rfl) (A0 rfl) hx (by first | omega | (simp only [A6, A8, B2, B6, A9, szR] at *; omega))) ?_
  refine A1 rfl rfl rfl (L8 rfl (A0 rfl) T2 F2) ?_
  refine G5 rfl rfl rfl rfl Tryz.zeroValue142 rfl ?_
  intro b7
  refine D9 0 rfl rfl rfl (A0 rfl) (A0 rfl) (E9 _) rfl F2 rfl ?_
  refine A4 (A2 ?_)
  refine A5 rfl rfl rfl rfl rfl ?_
  refine A1 rfl rfl rfl (B4 0 rfl G9 rfl E8 (A0 rfl) rfl) ?_
  refine A1 rfl rfl rfl (B3 0 rfl (A0 rfl) rfl H2 rfl) ?_
  refine I0 [1] rfl rfl rfl rfl Tryz.call122 rfl (AA6 v (putAllS (cKeys (s.Cells.take i)) []) c.Key (u5 List.Pairwise.nil).1 (by unfold cKeys; omega)) (A7 (A0 rfl) (A7 (A0 rfl) C9)) rfl ?_
  intro x24 ok24
  refine B5 rfl rfl rfl rfl rfl ?_
  refine A4 (A2 ?_)
  refine A1 rfl rfl rfl (H0 rfl (A0 rfl) C2 (by first | omega | (simp only [A6, A8, B2, B6, A9, szR] at *; omega))) ?_
  refine A5 rfl rfl rfl rfl rfl ?_
  refine A4 ?_
  refine R6 i v (i + 1) (x24) ?_ ?_ (Le.trans (J2 [1, 0] rfl) (N4 1 (by exact congrArg (fun z => Own.arr _ 9 1 (List.map (fun s => [AV.str s]) z) :: _) (by unfold cKeys; rw [List.take_add_one, hx, List.map_append]; exact (AL6 _ _ _).symm)) ⟨rfl, rfl, rfl, rfl, rfl, rfl, rfl, trivial⟩))
  ·omega
  ·omega
 ·intro h18
  have k18 := of_decide_eq_false h18; try simp only [A6] at k18
  have hge : s.Cells.length ≤ i := by omega
  rw [List.take_of_length_le hge]
  refine I1 ?_
  refine A3 (A2 ?_)
  refine R8 rfl rfl rfl rfl F7 H4 ?_
  intro v26
  refine A5 rfl rfl rfl rfl rfl ?_
  refine M6 (by' := 40) 0 rfl rfl rfl rfl F7 Tryz.type77 rfl rfl rfl rfl rfl rfl (A0 rfl) (A0 rfl) rfl (by simp only [B6, A6]; omega) ?_
  intro v28_1
  refine B5 rfl rfl rfl rfl rfl ?_
  refine A4 (A3 (A3 (A2 ?_)))
  refine A1 rfl rfl rfl (B4 2 rfl C4 rfl G4 (A0 rfl) rfl) ?_
  refine A1 rfl rfl rfl (B3 2 rfl (A0 rfl) rfl J8 rfl) ?_
  refine A1 rfl rfl rfl (I5 rfl D0 (A0 rfl)) ?_
  refine A1 rfl rfl rfl (C6 rfl C2) ?_
  refine A4 (E1 ?_)
  refine Y7 [(2, _), (4, _), (5, _), (30, _), (31, _)] _ (fun (q : Nat) (u : Value) (a : List TWrite) => q ≤ s.Held.length ∧ a = ws ++ hWs (s.Held.take q)) (fun (q : Nat) (u : Value) (a : List TWrite) => [.arr u 77 3 (a.map TWrite.cs)]) (fun (q : Nat) (u : Value) (a : List TWrite) => [(8, AV.is u), (32, AV.int q)]) (fun (q : Nat) (u : Value) (a : List TWrite) => s.Held.length - q) (0) (v28_1) (ws) ?_ (S9 (by rfl) ⟨rfl, rfl, rfl, rfl, rfl, rfl, rfl, trivial⟩) ?_
  ·exact ⟨Nat.zero_le _, by rw [List.take_zero]; exact (List.append_nil _).symm⟩
  intro q u a hinv
  refine A3 (A2 ?_)
  refine A1 rfl rfl rfl (L4 rfl (A0 rfl) (A0 rfl)) ?_
  refine A4 (A3 ?_)
  refine C8 (A0 rfl) ?_ ?_
  ·intro h33
   have k33 := of_decide_eq_true h33; try simp only [A6] at k33
   have hlt : q < s.Held.length := by omega
   obtain ⟨h, hx⟩ := get_some hlt
   obtain ⟨g1, g2, g3, g4, g5⟩ := U7 hs2 hx
   have hwt := AP2 (l := s.Held.take q)
   have hwt2 := AJ7 (f := THeld.size) (l := s.Held) q
   have hal9 : a.length ≤ 800000 := by (rw [hinv.2, H9]; omega)
   refine D2 (A3 (E1 (A3 (A2 ?_))))
   refine A1 rfl rfl rfl (K0 rfl D0 D3 (A0 rfl) (A0 rfl) hx (by first | omega | (simp only [A6, A8, B2, B6, A9, szR] at *; omega))) ?_
   refine A1 rfl rfl rfl (L8 rfl (A0 rfl) H8 D3) ?_
   refine G5 rfl rfl rfl rfl Tryz.zeroValue45 rfl ?_
   intro b10
   refine D9 0 rfl rfl rfl (A0 rfl) (A0 rfl) (E9 _) rfl D3 rfl ?_
   refine A4 (A2 ?_)
   refine A5 rfl rfl rfl rfl rfl ?_
   refine A1 rfl rfl rfl (B4 4 rfl F1 rfl K4 (A0 rfl) rfl) ?_
   refine A1 rfl rfl rfl (B3 0 rfl (A0 rfl) rfl L7 rfl) ?_
   refine M6 (by' := 40) 1 rfl rfl rfl rfl F7 Tryz.type77 rfl rfl rfl rfl rfl rfl (A0 rfl) (A0 rfl) rfl (by simp only [H9, A6]; omega) ?_
   intro v39_2
   refine B5 rfl rfl rfl rfl rfl ?_
   refine A4 (A2 ?_)
   refine A1 rfl rfl rfl (H0 rfl (A0 rfl) C2 (by first | omega | (simp only [A6, A8, B2, B6, A9, szR] at *; omega))) ?_
   refine A5 rfl rfl rfl rfl rfl ?_
   refine A4 ?_
   refine V5 q u a (q + 1) (v39_2) (a ++ h.Writes) ?_ ?_ (Le.trans (J2 [0, 0] rfl) (N4 1 (by (rw [List.map_append]; rfl)) ⟨rfl, rfl, rfl, rfl, rfl, rfl, rfl, trivial⟩))
   ·exact ⟨by omega, by rw [hinv.2, Aj9 hx, List.append_assoc]⟩
   ·omega
  ·intro h33
   have k33 := of_decide_eq_false h33; try simp only [A6] at k33
   have hge : s.Held.length ≤ q := by omega
   have ha9 : a = al := by (rw [hinv.2, List.take_of_length_le hge, hal])
   subst ha9
   refine I1 ?_
   refine A3 (A3 (A2 ?_))
   refine A5 rfl rfl rfl rfl rfl ?_
   refine A1 rfl rfl rfl (U1 0 rfl F7 (A0 rfl) rfl) ?_
   refine A1 rfl rfl rfl (C6 rfl C2) ?_
   refine A4 (E1 ?_)
   refine AWP.le (J2 [1] rfl) ?_
   refine Y7 [(2, _), (41, _), (42, _)] _ (fun (r : Nat) (v2 : Value) (ks : List Str) => r ≤ a.length ∧ a.all p = (a.drop r).all p ∧ ks = putAllS (cKeys s.Cells ++ wKeys (a.take r)) []) (fun (r : Nat) (v2 : Value) (ks : List Str) => [.arr v2 9 1 (ks.map fun s => [AV.str s])]) (fun (r : Nat) (v2 : Value) (ks : List Str) => [(5, AV.is v2), (43, AV.int r)]) (fun (r : Nat) (v2 : Value) (ks : List Str) => a.length - r) (0) (v) (putAllS (cKeys s.Cells) []) ?_ (S9 (by rfl) ⟨rfl, rfl, rfl, rfl, rfl, trivial⟩) ?_
   ·exact ⟨Nat.zero_le _, rfl, by rw [List.take_zero]; exact congrArg (fun z => putAllS z []) (List.append_nil _).symm⟩
   intro r v2 ks hinv
   refine A3 (A2 ?_)
   refine A1 rfl rfl rfl (L4 rfl (A0 rfl) (A0 rfl)) ?_
   refine A4 (A3 ?_)
   refine C8 (A0 rfl) ?_ ?_
   ·intro h44
    have k44 := of_decide_eq_true h44; try simp only [A6] at k44
    have hlt : r < a.length := by omega
    obtain ⟨w, hx⟩ := get_some hlt
    obtain ⟨c, hc0⟩ := at_some s.Cells w.Key
    have hfu := fullC_at (l := s.Cells) (k := w.Key) (c := c) (fun h9 => (hc0 h9).2)
    have hpl := AE3 (cKeys s.Cells ++ wKeys (a.take r)) []
    unfold cKeys wKeys at hpl
    simp only [H9, A6, A8, B6] at hpl
    refine D2 (A3 (E1 (A3 (A2 ?_))))
    refine A1 rfl rfl rfl (R9 1 rfl F7 H4 (A0 rfl) rfl (A0 rfl) (by omega) (by try simp only [A6]; omega)) ?_
    refine A1 rfl rfl rfl (p5 1 rfl (A0 rfl) rfl S5 H4 (by rw [Int.toNat_natCast, List.getElem?_map, hx]; rfl) (by decide)) ?_
    refine G5 rfl rfl rfl rfl Tryz.zeroValue77 rfl ?_
    intro b12
    refine D9 0 rfl rfl rfl (A0 rfl) (A0 rfl) (E9 _) rfl H4 rfl ?_
    refine A4 (A3 (A2 ?_))
    refine A5 rfl rfl rfl rfl rfl ?_
    refine A1 rfl rfl rfl (B4 0 rfl G8 rfl E8 (A0 rfl) rfl) ?_
    refine A1 rfl rfl rfl (B3 0 rfl (A0 rfl) rfl H2 rfl) ?_
    refine I0 [1] rfl rfl rfl rfl Tryz.call122 rfl (AA6 v2 ks w.Key (by rw [hinv.2.2]; exact (u5 List.Pairwise.nil).1) (by rw [hinv.2.2]; unfold cKeys wKeys; omega)) (A7 (A0 rfl) (A7 (A0 rfl) C9)) rfl ?_
    intro x50 ok50
    refine B5 rfl rfl rfl rfl rfl ?_
    refine A4 (A3 (A2 ?_))
    refine A1 rfl rfl rfl (B4 1 rfl C4 rfl O5 (A0 rfl) rfl) ?_
    refine A1 rfl rfl rfl (B3 3 rfl (A0 rfl) rfl Q5 rfl) ?_
    refine A1 rfl rfl rfl (B4 0 rfl G8 rfl E8 (A0 rfl) rfl) ?_
    refine A1 rfl rfl rfl (B3 1 rfl (A0 rfl) rfl H2 rfl) ?_
    refine A1 rfl rfl rfl (E5 rfl Tryz.call261 rfl (Ad4 _ _) (A7 (A0 rfl) (A7 (A0 rfl) C9))) ?_
    refine B5 rfl rfl rfl rfl rfl ?_
    refine A4 (A3 (A2 ?_))
    refine A5 rfl rfl rfl rfl rfl ?_
    refine A1 rfl rfl rfl (d7 rfl (A0 rfl) C2) ?_
    refine A5 rfl rfl rfl rfl rfl ?_
    refine B1 rfl rfl (B9 rfl rfl rfl) (fun hc => B4 1 rfl C4 rfl O5 (A0 rfl) rfl) ?_
    refine B1 rfl rfl (B9 rfl rfl rfl) (fun hc => B3 3 rfl (B0 rfl hc) rfl Q5 rfl) ?_
    refine B1 rfl rfl (B9 rfl rfl rfl) (fun hc => C6 rfl (A0 rfl)) ?_
    refine B1 rfl rfl (B9 rfl rfl rfl) (fun hc => AC9 rfl D6 F2 (B0 rfl hc) (B0 rfl hc) (by have h9 := of_decide_eq_true hc; obtain ⟨⟨p9, e1, e2⟩, _⟩ := hc0 (by omega); have := (List.getElem?_eq_some_iff.1 e2).1; omega) (by have h9 := of_decide_eq_true hc; obtain ⟨⟨p9, e1, e2⟩, _⟩ := hc0 (by omega); rw [e1, Int.toNat_natCast, List.getElem?_map, e2]; rfl)) ?_
    refine B1 rfl rfl (B9 rfl rfl rfl) (fun hc => W4 rfl G9 rfl M1 (B0 rfl hc) rfl) ?_
    refine B1 rfl rfl (B9 rfl rfl rfl) (fun hc => O8 rfl (B0 rfl hc) Q6 rfl) ?_
    refine B1 rfl rfl (B9 rfl rfl rfl) (fun hc => I5 rfl I6 (B0 rfl hc)) ?_
    refine B1 rfl rfl (B9 rfl rfl rfl) (fun hc => d7 rfl (B0 rfl hc) C2) ?_
    refine A1 rfl rfl rfl (I3 rfl (A0 rfl) (G0 rfl)) ?_
    refine A4 ?_
    refine C8 (A0 rfl) ?_ ?_
    ·intro h67
     have hpw : p w = false := by (rw [hp]; simp only [Bool.not_eq_false']; rw [hfu]; rw [A6] at h67; exact h67)
     have hro : room s.Cells a = false := by (unfold room; rw [show (a.all fun w => !fullC s.Cells w.Key) = false from by rw [← hp, hinv.2.1, drop_some hx, List.all_cons, hpw]; rfl]; rfl)
     refine A3 (A2 ?_)
     refine A1 rfl rfl rfl (C0 rfl F3) ?_
     refine A4 ?_
     refine C7 ?_
     exact I2 rfl (C3 rfl (by first | exact congrArg AV.bool hro.symm | exact congrArg AV.bool (by rw [hro]; simp only [A6]; rw [decide_eq_decide]; omega)))
    ·intro h67
     have hpw : p w = true := by (rw [hp]; simp only [Bool.not_eq_true']; rw [hfu]; rw [A6] at h67; exact h67)
     refine D2 (A2 ?_)
     refine A1 rfl rfl rfl (H0 rfl (A0 rfl) C2 (by first | omega | (simp only [A6, A8, B2, B6, A9, szR] at *; omega))) ?_
     refine A5 rfl rfl rfl rfl rfl ?_
     refine A4 ?_
     refine V5 r v2 ks (r + 1) (x50) (putS ks w.Key) ?_ ?_ (Le.trans (J2 [1, 0] rfl) (N4 1 (by rfl) ⟨rfl, rfl, rfl, rfl, rfl, trivial⟩))
     ·exact ⟨by omega, by rw [hinv.2.1, drop_some hx, List.all_cons, hpw]; rfl, by rw [hinv.2.2]; unfold wKeys; rw [List.take_add_one, hx, List.map_append, ← List.append_assoc]; exact (AL6 _ _ _).symm⟩
     ·omega
   ·intro h44
    have k44 := of_decide_eq_false h44; try simp only [A6] at k44
    have hge : a.length ≤ r := by omega
    have hks := hinv.2.2
    rw [List.take_of_length_le hge] at hks
    have hro : room s.Cells a = decide (ks.length ≤ 24) := by (unfold room roomKs; rw [← hp, hinv.2.1, List.drop_eq_nil_of_le hge, Aw4, ← hks]; rfl)
    refine I1 ?_
    refine A3 (A2 ?_)
    refine A5 rfl rfl rfl rfl rfl ?_
    refine A1 rfl rfl rfl (U1 0 rfl E3 (A0 rfl) rfl) ?_
    refine A1 rfl rfl rfl (T6 rfl (A0 rfl) C2) ?_
    refine B5 rfl rfl rfl rfl rfl ?_
    refine A4 ?_
    refine C7 ?_
    exact I2 rfl (C3 rfl (by first | exact congrArg AV.bool hro.symm | exact congrArg AV.bool (by rw [hro]; simp only [A6]; rw [decide_eq_decide]; omega)))
theorem Al5 (s : TState) (n : Int) (hlen : s.Held.length ≤ 1048576) : FSpec Tryz.prog 105 [AV.agg s.cs, AV.int n] (AV.tup [AV.agg (heldFO s.Held n).1.cs, AV.bool (heldFO s.Held n).2]) := by
 obtain ⟨l, hl⟩ : ∃ l, s.Held = l := ⟨_, rfl⟩
 have hcs : s.cs = [AV.int s.Floor, AV.list 2 (s.Cells.map TCell.cs), AV.list 5 (l.map THeld.cs), AV.list 3 (s.Told.map TTold.cs)] := by rw [← hl]; rfl
 rw [hl] at hlen
 rw [hl, hcs]
 refine E7 Tryz.func105 rfl Tryz.ntmps105 rfl ?_
 refine A3 (A2 ?_)
 refine L9 rfl rfl rfl rfl (A0 rfl) ?_
 intro b2
 refine G5 rfl rfl rfl rfl Tryz.zeroValue45 rfl ?_
 intro b4
 refine A1 rfl rfl rfl (C0 rfl F3) ?_
 refine A4 (A3 (A3 (A2 ?_)))
 refine A1 rfl rfl rfl (B4 2 rfl C4 rfl G4 (A0 rfl) rfl) ?_
 refine A1 rfl rfl rfl (B3 1 rfl (A0 rfl) rfl J8 rfl) ?_
 refine A1 rfl rfl rfl (I5 rfl D0 (A0 rfl)) ?_
 refine A1 rfl rfl rfl (C6 rfl C2) ?_
 refine A4 (E1 ?_)
 refine K8 [(1, _), (4, _), (9, _), (10, _)] _ (fun (i : Nat) => i ≤ l.length ∧ ∀ j y, j < i → l[j]? = some y → (y.Txn == n) = false) (fun (i : Nat) => []) (fun (i : Nat) => [(11, AV.int i)]) (fun (i : Nat) => l.length - i) (0) ?_ (L0 ⟨rfl, rfl, rfl, rfl, rfl, trivial⟩) ?_
 ·exact ⟨Nat.zero_le _, fun j y hj => by omega⟩
 intro i hinv
 refine A3 (A2 ?_)
 refine A1 rfl rfl rfl (L4 rfl (A0 rfl) (A0 rfl)) ?_
 refine A4 (A3 ?_)
 refine C8 (A0 rfl) ?_ ?_
 ·intro h12
  have k12 := of_decide_eq_true h12; try simp only [A6] at k12
  have hlt : i < l.length := by omega
  obtain ⟨x, hx⟩ := get_some hlt
  refine D2 (A3 (E1 (A3 (A2 ?_))))
  refine A1 rfl rfl rfl (K0 rfl D0 D3 (A0 rfl) (A0 rfl) hx (by first | omega | (simp only [A6, A8, B2, B6, A9, szR] at *; omega))) ?_
  refine A1 rfl rfl rfl (L8 rfl (A0 rfl) H8 D3) ?_
  refine G5 rfl rfl rfl rfl Tryz.zeroValue45 rfl ?_
  intro b7
  refine D9 0 rfl rfl rfl (A0 rfl) (A0 rfl) (E9 _) rfl D3 rfl ?_
  refine A4 (A3 (A2 ?_))
  refine A1 rfl rfl rfl (B4 0 rfl F1 rfl C1 (A0 rfl) rfl) ?_
  refine A1 rfl rfl rfl (B3 0 rfl (A0 rfl) rfl D1 rfl) ?_
  refine A5 rfl rfl rfl rfl rfl ?_
  refine A1 rfl rfl rfl (M0 rfl (A0 rfl) (A0 rfl)) ?_
  refine A4 ?_
  refine C8 (A0 rfl) ?_ ?_
  ·intro h18
   have k18 := K3 h18; try simp only [A6] at k18
   have he : heldFO l n = (x, true) := by (unfold heldFO findH; rw [AA8 hx h18 hinv.2])
   rw [he]
   refine A3 (A2 ?_)
   refine A1 rfl rfl rfl (F8 0 rfl (A0 rfl) rfl H8 D3 rfl) ?_
   refine D9 1 rfl rfl rfl (A0 rfl) (A0 rfl) (E9 _) rfl D3 rfl ?_
   refine A1 rfl rfl rfl (C0 rfl F3) ?_
   refine A4 ?_
   refine C7 ?_
   exact U3 rfl (by decide) (E4 (J9 (ys := _) 1 rfl rfl H8 D3 rfl) (E4 (C3 rfl (by rfl)) J0))
  ·intro h18
   have k18 := K2 h18; try simp only [A6] at k18
   refine D2 (A2 ?_)
   refine A1 rfl rfl rfl (H0 rfl (A0 rfl) C2 (by first | omega | (simp only [A6, A8, B2, B6, A9, szR] at *; omega))) ?_
   refine A5 rfl rfl rfl rfl rfl ?_
   refine A4 ?_
   refine N0 i (i + 1) ?_ ?_ (U4 1 ⟨rfl, rfl, rfl, rfl, rfl, trivial⟩)
   ·exact ⟨by omega, fun j y hj hy => if hji : j < i then hinv.2 j y hji hy else (by have e : j = i := (by omega); subst e; rw [hx] at hy; injection hy with hy; subst hy; exact h18)⟩
   ·omega
 ·intro h12
  have k12 := of_decide_eq_false h12; try simp only [A6] at k12
  have hge : l.length ≤ i := by omega
  have he : heldFO l n = (zHeld, false) := by (unfold heldFO findH; rw [AT5 fun j y hy => hinv.2 j y (Nat.lt_of_lt_of_le (List.getElem?_eq_some_iff.1 hy).1 hge) hy])
  rw [he]
  refine I1 ?_
  refine A3 (A2 ?_)
  refine A1 rfl rfl rfl (M7 (places := #[(0, 1), (1, 1), (2, 1), (3, 1), (4, 1)]) rfl F1 Tryz.zeroValue45 (fun w => by kernel_rfl) rfl H6 rfl) ?_
  refine D9 0 rfl rfl rfl (A0 rfl) (A0 rfl) (E9 _) rfl D3 rfl ?_
  refine A1 rfl rfl rfl (C0 rfl F3) ?_
  refine A4 ?_
  refine C7 ?_
  refine Z0 0 3 1 rfl rfl ?_
  refine Z0 0 4 3 rfl rfl ?_
  exact U3 rfl (by decide) (E4 (J9 (ys := _) 0 rfl rfl H8 D3 rfl) (E4 (C3 rfl (by rfl)) J0))
theorem Al6 (s : TState) (n : Int) (hlen : s.Told.length ≤ 1048576) : FSpec Tryz.prog 104 [AV.agg s.cs, AV.int n] (AV.tup [AV.agg (toldFO s.Told n).1.cs, AV.bool (toldFO s.Told n).2]) := by
 obtain ⟨l, hl⟩ : ∃ l, s.Told = l := ⟨_, rfl⟩
 have hcs : s.cs = [AV.int s.Floor, AV.list 2 (s.Cells.map TCell.cs), AV.list 5 (s.Held.map THeld.cs), AV.list 3 (l.map TTold.cs)] := by rw [← hl]; rfl
 rw [hl] at hlen
 rw [hl, hcs]
 refine E7 Tryz.func104 rfl Tryz.ntmps104 rfl ?_
 refine A3 (A2 ?_)
 refine L9 rfl rfl rfl rfl (A0 rfl) ?_
 intro b2
 refine G5 rfl rfl rfl rfl Tryz.zeroValue39 rfl ?_
 intro b4
 refine A1 rfl rfl rfl (C0 rfl F3) ?_
 refine A4 (A3 (A3 (A2 ?_)))
 refine A1 rfl rfl rfl (B4 3 rfl C4 rfl K5 (A0 rfl) rfl) ?_
 refine A1 rfl rfl rfl (B3 1 rfl (A0 rfl) rfl Q0 rfl) ?_
 refine A1 rfl rfl rfl (I5 rfl E6 (A0 rfl)) ?_
 refine A1 rfl rfl rfl (C6 rfl C2) ?_
 refine A4 (E1 ?_)
 refine K8 [(1, _), (4, _), (9, _), (10, _)] _ (fun (i : Nat) => i ≤ l.length ∧ ∀ j y, j < i → l[j]? = some y → (y.Txn == n) = false) (fun (i : Nat) => []) (fun (i : Nat) => [(11, AV.int i)]) (fun (i : Nat) => l.length - i) (0) ?_ (L0 ⟨rfl, rfl, rfl, rfl, rfl, trivial⟩) ?_
 ·exact ⟨Nat.zero_le _, fun j y hj => by omega⟩
 intro i hinv
 refine A3 (A2 ?_)
 refine A1 rfl rfl rfl (L4 rfl (A0 rfl) (A0 rfl)) ?_
 refine A4 (A3 ?_)
 refine C8 (A0 rfl) ?_ ?_
 ·intro h12
  have k12 := of_decide_eq_true h12; try simp only [A6] at k12
  have hlt : i < l.length := by omega
  obtain ⟨x, hx⟩ := get_some hlt
  refine D2 (A3 (E1 (A3 (A2 ?_))))
  refine A1 rfl rfl rfl (K0 rfl E6 G7 (A0 rfl) (A0 rfl) hx (by first | omega | (simp only [A6, A8, B2, B6, A9, szR] at *; omega))) ?_
  refine A1 rfl rfl rfl (L8 rfl (A0 rfl) T4 G7) ?_
  refine G5 rfl rfl rfl rfl Tryz.zeroValue39 rfl ?_
  intro b7
  refine D9 0 rfl rfl rfl (A0 rfl) (A0 rfl) (E9 _) rfl G7 rfl ?_
  refine A4 (A3 (A2 ?_))
  refine A1 rfl rfl rfl (B4 0 rfl I9 rfl C1 (A0 rfl) rfl) ?_
  refine A1 rfl rfl rfl (B3 0 rfl (A0 rfl) rfl D1 rfl) ?_
  refine A5 rfl rfl rfl rfl rfl ?_
  refine A1 rfl rfl rfl (M0 rfl (A0 rfl) (A0 rfl)) ?_
  refine A4 ?_
  refine C8 (A0 rfl) ?_ ?_
  ·intro h18
   have k18 := K3 h18; try simp only [A6] at k18
   have he : toldFO l n = (x, true) := by (unfold toldFO findT; rw [AA8 hx h18 hinv.2])
   rw [he]
   refine A3 (A2 ?_)
   refine A1 rfl rfl rfl (F8 0 rfl (A0 rfl) rfl T4 G7 rfl) ?_
   refine D9 1 rfl rfl rfl (A0 rfl) (A0 rfl) (E9 _) rfl G7 rfl ?_
   refine A1 rfl rfl rfl (C0 rfl F3) ?_
   refine A4 ?_
   refine C7 ?_
   exact U3 rfl (by decide) (E4 (J9 (ys := _) 1 rfl rfl T4 G7 rfl) (E4 (C3 rfl (by rfl)) J0))
  ·intro h18
   have k18 := K2 h18; try simp only [A6] at k18
   refine D2 (A2 ?_)
   refine A1 rfl rfl rfl (H0 rfl (A0 rfl) C2 (by first | omega | (simp only [A6, A8, B2, B6, A9, szR] at *; omega))) ?_
   refine A5 rfl rfl rfl rfl rfl ?_
   refine A4 ?_
   refine N0 i (i + 1) ?_ ?_ (U4 1 ⟨rfl, rfl, rfl, rfl, rfl, trivial⟩)
   ·exact ⟨by omega, fun j y hj hy => if hji : j < i then hinv.2 j y hji hy else (by have e : j = i := (by omega); subst e; rw [hx] at hy; injection hy with hy; subst hy; exact h18)⟩
   ·omega
 ·intro h12
  have k12 := of_decide_eq_false h12; try simp only [A6] at k12
  have hge : l.length ≤ i := by omega
  have he : toldFO l n = (zTold, false) := by (unfold toldFO findT; rw [AT5 fun j y hy => hinv.2 j y (Nat.lt_of_lt_of_le (List.getElem?_eq_some_iff.1 hy).1 hge) hy])
  rw [he]
  refine I1 ?_
  refine A3 (A2 ?_)
  refine A1 rfl rfl rfl (M7 (places := #[(0, 1), (1, 1), (2, 1)]) rfl I9 Tryz.zeroValue39 (fun w => by kernel_rfl) rfl H6 rfl) ?_
  refine D9 0 rfl rfl rfl (A0 rfl) (A0 rfl) (E9 _) rfl G7 rfl ?_
  refine A1 rfl rfl rfl (C0 rfl F3) ?_
  refine A4 ?_
  refine C7 ?_
  exact U3 rfl (by decide) (E4 (J9 (ys := _) 0 rfl rfl T4 G7 rfl) (E4 (C3 rfl (by rfl)) J0))
theorem Ag0 (s : TState) (ho : CellsOk s.Cells) (hs : s.size ≤ 400000) : FSpec Tryz.prog 202 [AV.agg s.cs] (AV.bool (areHeld s)) := by
 obtain ⟨hs1, hs2, hs3, hs4, hs5⟩ := R4 hs
 refine E7 Tryz.func202 rfl Tryz.ntmps202 rfl ?_
 refine A3 (A2 ?_)
 refine L9 rfl rfl rfl rfl (A0 rfl) ?_
 intro b1
 refine A1 rfl rfl rfl (C0 rfl F3) ?_
 refine A4 (A3 (A3 (A2 ?_)))
 refine A1 rfl rfl rfl (B4 2 rfl C4 rfl G4 (A0 rfl) rfl) ?_
 refine A1 rfl rfl rfl (B3 0 rfl (A0 rfl) rfl J8 rfl) ?_
 refine A1 rfl rfl rfl (I5 rfl D0 (A0 rfl)) ?_
 refine A1 rfl rfl rfl (C6 rfl C2) ?_
 refine A4 (E1 ?_)
 refine K8 [(1, _), (10, _), (11, _)] _ (fun (i : Nat) => i ≤ s.Held.length ∧ ∀ j, j < i → heldAt s j = true) (fun (i : Nat) => []) (fun (i : Nat) => [(12, AV.int i)]) (fun (i : Nat) => s.Held.length - i) (0) ?_ (L0 ⟨rfl, rfl, rfl, rfl, trivial⟩) ?_
 ·exact ⟨Nat.zero_le _, fun j hj => by omega⟩
 intro i hinv
 refine A3 (A2 ?_)
 refine A1 rfl rfl rfl (L4 rfl (A0 rfl) (A0 rfl)) ?_
 refine A4 (A3 ?_)
 refine C8 (A0 rfl) ?_ ?_
 ·intro h13
  have k13 := of_decide_eq_true h13; try simp only [A6] at k13
  have hlt : i < s.Held.length := by omega
  obtain ⟨h, hx⟩ := get_some hlt
  obtain ⟨y, hy⟩ := get_some (show i - 1 < s.Held.length by omega)
  obtain ⟨g1, g2, g3, g4, g5⟩ := U7 hs2 hx
  have hinv0 := hinv
  refine D2 (A3 (E1 (A3 (A2 ?_))))
  refine A5 rfl rfl rfl rfl rfl ?_
  refine A1 rfl rfl rfl (K0 rfl D0 D3 (A0 rfl) (A0 rfl) hx (by first | omega | (simp only [A6, A8, B2, B6, A9, szR] at *; omega))) ?_
  refine A1 rfl rfl rfl (L8 rfl (A0 rfl) H8 D3) ?_
  refine G5 rfl rfl rfl rfl Tryz.zeroValue45 rfl ?_
  intro b4
  refine B5 rfl rfl rfl rfl rfl ?_
  refine D9 0 rfl rfl rfl (A0 rfl) (A0 rfl) (E9 _) rfl D3 rfl ?_
  refine A4 (A3 (A3 ?_))
  refine K9 (by kernel_rfl) (by kernel_rfl) rfl ?_
  refine B7 rfl rfl (F8 0 rfl (A0 rfl) rfl H8 D3 rfl) ?_
  refine B7 rfl rfl (E5 rfl Tryz.call89 rfl (Af9 _) (A7 (A0 rfl) C9)) ?_
  refine B7 rfl rfl (E5 rfl Tryz.call85 rfl (AQ9 _ (by first | assumption | omega)) (A7 (A0 rfl) C9)) ?_
  refine B7 rfl rfl (J7 rfl (A0 rfl)) ?_
  refine B7 rfl rfl (C6 rfl (A0 rfl)) ?_
  refine E0 rfl (D4 rfl rfl rfl) (fun hc => B4 1 rfl F1 rfl C1 (A0 rfl) rfl) ?_
  refine E0 rfl (D4 rfl rfl rfl) (fun hc => B3 0 rfl (B0 rfl hc) rfl D1 rfl) ?_
  refine E0 rfl (D4 rfl rfl rfl) (fun hc => B4 0 rfl C4 rfl C1 (A0 rfl) rfl) ?_
  refine E0 rfl (D4 rfl rfl rfl) (fun hc => B3 1 rfl (B0 rfl hc) rfl D1 rfl) ?_
  refine E0 rfl (D4 rfl rfl rfl) (fun hc => P1 rfl (B0 rfl hc) (B0 rfl hc)) ?_
  refine B7 rfl rfl (P5 rfl (A0 rfl) (G0 rfl)) ?_
  refine B7 rfl rfl (C6 rfl (A0 rfl)) ?_
  refine E0 rfl (D4 rfl rfl rfl) (fun hc => C6 rfl (A0 rfl)) ?_
  refine E0 rfl (D4 rfl rfl rfl) (fun hc => P1 rfl (B0 rfl hc) C2) ?_
  refine E0 rfl (D4 rfl rfl rfl) (fun hc => C6 rfl (B0 rfl hc)) ?_
  refine E0 rfl (E2 rfl rfl rfl) (fun hc => B4 2 rfl C4 rfl G4 (A0 rfl) rfl) ?_
  refine E0 rfl (E2 rfl rfl rfl) (fun hc => B3 1 rfl (B0 rfl hc) rfl J8 rfl) ?_
  refine E0 rfl (E2 rfl rfl rfl) (fun hc => C6 rfl (A0 rfl)) ?_
  refine E0 rfl (E2 rfl rfl rfl) (fun hc => P8 rfl (B0 rfl hc) C2 (by first | omega | ((try simp only [A6, A8, B2, B6, A9, szR] at *); omega) | (have hc2 := hc; simp only [Bool.and_eq_true, Bool.or_eq_true, Bool.or_eq_false_iff, Bool.and_eq_false_iff, Bool.not_eq_true', Bool.not_eq_false', decide_eq_true_eq, decide_eq_false_iff_not, beq_iff_eq, bne_iff_ne, A6, A8] at hc2; omega))) ?_
  refine E0 rfl (E2 rfl rfl rfl) (fun hc => K0 rfl D0 D3 (B0 rfl hc) (B0 rfl hc) hy (by first | omega | ((try simp only [A6, A8, B2, B6, A9, szR] at *); omega) | (have hc2 := hc; simp only [Bool.and_eq_true, Bool.or_eq_true, Bool.or_eq_false_iff, Bool.and_eq_false_iff, Bool.not_eq_true', Bool.not_eq_false', decide_eq_true_eq, decide_eq_false_iff_not, beq_iff_eq, bne_iff_ne, A6, A8] at hc2; omega))) ?_
  refine E0 rfl (E2 rfl rfl rfl) (fun hc => W4 rfl F1 rfl C1 (B0 rfl hc) rfl) ?_
  refine E0 rfl (E2 rfl rfl rfl) (fun hc => O8 rfl (B0 rfl hc) D1 rfl) ?_
  refine E0 rfl (E2 rfl rfl rfl) (fun hc => B4 0 rfl F1 rfl C1 (A0 rfl) rfl) ?_
  refine E0 rfl (E2 rfl rfl rfl) (fun hc => B3 0 rfl (B0 rfl hc) rfl D1 rfl) ?_
  refine E0 rfl (E2 rfl rfl rfl) (fun hc => d7 rfl (B0 rfl hc) (B0 rfl hc)) ?_
  refine E0 rfl (D4 rfl rfl rfl) (fun hc => I3 rfl (B0 rfl hc) (P4 rfl hc)) ?_
  refine B7 rfl rfl (P5 rfl (A0 rfl) (G0 rfl)) ?_
  refine P7 ?_
  refine C8 (A0 rfl) ?_ ?_
  ·intro h43
   have hfin : areHeld s = false := by (unfold areHeld; rw [Y9 hlt (by rw [AA7 hx hy, h43]; rfl)]; rfl)
   refine A3 (A2 ?_)
   refine A1 rfl rfl rfl (C0 rfl F3) ?_
   refine A4 ?_
   refine C7 ?_
   exact I2 rfl (C3 rfl (by first | exact congrArg AV.bool hfin.symm | exact congrArg AV.bool (by unfold areHeld; rw [hall, Bool.true_and, List.nil_append, A6]; congr 1; rw [decide_eq_decide]; omega)))
  ·intro h43
   refine D2 (A3 (A3 (A2 ?_)))
   refine A1 rfl rfl rfl (B4 2 rfl C4 rfl G4 (A0 rfl) rfl) ?_
   refine A1 rfl rfl rfl (B3 1 rfl (A0 rfl) rfl J8 rfl) ?_
   refine A5 rfl rfl rfl rfl rfl ?_
   refine A1 rfl rfl rfl (AD0 rfl D0 D3 (A0 rfl) (A0 rfl) (by first | omega | (simp only [A6, A8, B2, B6, A9, szR] at *; omega)) (by first | omega | (simp only [A6, A8, B2, B6, A9, szR] at *; omega))) ?_
   refine A1 rfl rfl rfl (I5 rfl D0 (A0 rfl)) ?_
   refine A1 rfl rfl rfl (C6 rfl C2) ?_
   refine A4 (E1 ?_)
   refine K8 [(1, _), (3, _), (4, _), (10, _), (11, _), (12, _), (13, _), (14, _), (15, _), (16, _), (17, _), (18, _), (19, _), (20, _), (21, _), (27, _), (28, _), (43, _), (44, _), (45, _), (46, _), (47, _), (48, _)] _ (fun (q : Nat) => q ≤ (s.Held.take i).length ∧ ((s.Held.take i).all fun g => apart g h.Reads h.Writes) = (((s.Held.take i).drop q).all fun g => apart g h.Reads h.Writes)) (fun (q : Nat) => []) (fun (q : Nat) => [(49, AV.int q)]) (fun (q : Nat) => (s.Held.take i).length - q) (0) ?_ (L0 ⟨rfl, rfl, rfl, rfl, rfl, rfl, rfl, rfl, rfl, rfl, rfl, rfl, rfl, rfl, rfl, rfl, rfl, rfl, rfl, rfl, rfl, rfl, rfl, rfl, trivial⟩) ?_
   ·exact ⟨Nat.zero_le _, rfl⟩
   intro q hinv
   refine A3 (A2 ?_)
   refine A1 rfl rfl rfl (L4 rfl (A0 rfl) (A0 rfl)) ?_
   refine A4 (A3 ?_)
   refine C8 (A0 rfl) ?_ ?_
   ·intro h50
    have k50 := of_decide_eq_true h50; try simp only [A6] at k50
    have hlt2 : q < (s.Held.take i).length := by (simp only [A8, A6, Int.toNat_natCast] at k50 ⊢; omega)
    obtain ⟨k, hx2⟩ := get_some hlt2
    refine D2 (A3 (E1 (A3 (A2 ?_))))
    refine A1 rfl rfl rfl (K0 rfl D0 D3 (A0 rfl) (A0 rfl) hx2 (by first | omega | (simp only [A6, A8, B2, B6, A9, szR] at *; omega))) ?_
    refine A1 rfl rfl rfl (L8 rfl (A0 rfl) H8 D3) ?_
    refine G5 rfl rfl rfl rfl Tryz.zeroValue45 rfl ?_
    intro b6
    refine D9 0 rfl rfl rfl (A0 rfl) (A0 rfl) (E9 _) rfl D3 rfl ?_
    refine A4 (A3 (A2 ?_))
    refine A1 rfl rfl rfl (F8 0 rfl (A0 rfl) rfl H8 D3 rfl) ?_
    refine A1 rfl rfl rfl (B4 3 rfl F1 rfl M3 (A0 rfl) rfl) ?_
    refine A1 rfl rfl rfl (B3 1 rfl (A0 rfl) rfl P3 rfl) ?_
    refine A1 rfl rfl rfl (B4 4 rfl F1 rfl K4 (A0 rfl) rfl) ?_
    refine A1 rfl rfl rfl (B3 1 rfl (A0 rfl) rfl L7 rfl) ?_
    refine A1 rfl rfl rfl (E5 rfl Tryz.call222 rfl (apart_spec _ _ _) (A7 (A0 rfl) (A7 (A0 rfl) (A7 (A0 rfl) C9)))) ?_
    refine A1 rfl rfl rfl (J7 rfl (A0 rfl)) ?_
    refine A4 ?_
    refine C8 (A0 rfl) ?_ ?_
    ·intro h59
     have hfin : areHeld s = false := by (unfold areHeld; rw [Y9 hlt (by rw [AA7 hx hy, hinv.2, drop_some hx2, List.all_cons, show apart k h.Reads h.Writes = false by simpa using h59]; simp)]; rfl)
     refine A3 (A2 ?_)
     refine A1 rfl rfl rfl (C0 rfl F3) ?_
     refine A4 ?_
     refine C7 ?_
     exact I2 rfl (C3 rfl (by first | exact congrArg AV.bool hfin.symm | exact congrArg AV.bool (by unfold areHeld; rw [hall, Bool.true_and, List.nil_append, A6]; congr 1; rw [decide_eq_decide]; omega)))
    ·intro h59
     refine D2 (A2 ?_)
     refine A1 rfl rfl rfl (H0 rfl (A0 rfl) C2 (by first | omega | (simp only [A6, A8, B2, B6, A9, szR] at *; omega))) ?_
     refine A5 rfl rfl rfl rfl rfl ?_
     refine A4 ?_
     refine N0 q (q + 1) ?_ ?_ (U4 1 ⟨rfl, rfl, rfl, rfl, rfl, rfl, rfl, rfl, rfl, rfl, rfl, rfl, rfl, rfl, rfl, rfl, rfl, rfl, rfl, rfl, rfl, rfl, rfl, rfl, trivial⟩)
     ·exact ⟨by omega, by rw [hinv.2, drop_some hx2, List.all_cons, show apart k h.Reads h.Writes = true by simpa using h59]; rfl⟩
     ·omega
   ·intro h50
    have k50 := of_decide_eq_false h50; try simp only [A6] at k50
    have hge2 : (s.Held.take i).length ≤ q := by (simp only [A8, A6, Int.toNat_natCast] at k50 ⊢; omega)
    have hap : ((s.Held.take i).all fun g => apart g h.Reads h.Writes) = true := by (rw [hinv.2, List.drop_eq_nil_of_le hge2]; rfl)
    refine I1 ?_
    refine A3 (A2 ?_)
    refine A1 rfl rfl rfl (B4 4 rfl F1 rfl K4 (A0 rfl) rfl) ?_
    refine A1 rfl rfl rfl (B3 0 rfl (A0 rfl) rfl L7 rfl) ?_
    refine A1 rfl rfl rfl (I5 rfl F7 (A0 rfl)) ?_
    refine A1 rfl rfl rfl (C6 rfl C2) ?_
    refine A4 (E1 ?_)
    refine K8 [(1, _), (3, _), (4, _), (10, _), (11, _), (12, _), (13, _), (14, _), (15, _), (16, _), (17, _), (18, _), (19, _), (20, _), (21, _), (27, _), (28, _), (43, _), (44, _), (45, _), (46, _), (47, _), (48, _), (49, _), (50, _), (61, _), (62, _), (63, _)] _ (fun (r : Nat) => r ≤ h.Writes.length ∧ (h.Writes.all fun w => decide (lastTime s.Cells w.Key < h.Time)) = ((h.Writes.drop r).all fun w => decide (lastTime s.Cells w.Key < h.Time))) (fun (r : Nat) => []) (fun (r : Nat) => [(64, AV.int r)]) (fun (r : Nat) => h.Writes.length - r) (0) ?_ (L0 ⟨rfl, rfl, rfl, rfl, rfl, rfl, rfl, rfl, rfl, rfl, rfl, rfl, rfl, rfl, rfl, rfl, rfl, rfl, rfl, rfl, rfl, rfl, rfl, rfl, rfl, rfl, rfl, rfl, rfl, trivial⟩) ?_
    ·exact ⟨Nat.zero_le _, rfl⟩
    intro r hinv
    refine A3 (A2 ?_)
    refine A1 rfl rfl rfl (L4 rfl (A0 rfl) (A0 rfl)) ?_
    refine A4 (A3 ?_)
    refine C8 (A0 rfl) ?_ ?_
    ·intro h65
     have k65 := of_decide_eq_true h65; try simp only [A6] at k65
     have hlt3 : r < h.Writes.length := by omega
     obtain ⟨w, hw⟩ := get_some hlt3
     refine D2 (A3 (E1 (A3 (A2 ?_))))
     refine A1 rfl rfl rfl (K0 rfl F7 H4 (A0 rfl) (A0 rfl) hw (by first | omega | (simp only [A6, A8, B2, B6, A9, szR] at *; omega))) ?_
     refine A1 rfl rfl rfl (L8 rfl (A0 rfl) S5 H4) ?_
     refine G5 rfl rfl rfl rfl Tryz.zeroValue77 rfl ?_
     intro b8
     refine D9 0 rfl rfl rfl (A0 rfl) (A0 rfl) (E9 _) rfl H4 rfl ?_
     refine A4 (A3 ?_)
     refine K9 (by kernel_rfl) (by kernel_rfl) rfl ?_
     refine B7 rfl rfl (B4 1 rfl C4 rfl O5 (A0 rfl) rfl) ?_
     refine B7 rfl rfl (B3 2 rfl (A0 rfl) rfl Q5 rfl) ?_
     refine B7 rfl rfl (B4 0 rfl G8 rfl E8 (A0 rfl) rfl) ?_
     refine B7 rfl rfl (B3 0 rfl (A0 rfl) rfl H2 rfl) ?_
     refine B7 rfl rfl (E5 rfl Tryz.call203 rfl (AE7 _ _ (by first | assumption | exact V4 (by rw [U6]; assumption)) (by first | assumption | omega)) (A7 (A0 rfl) (A7 (A0 rfl) C9))) ?_
     refine B7 rfl rfl (B4 1 rfl F1 rfl C1 (A0 rfl) rfl) ?_
     refine B7 rfl rfl (B3 1 rfl (A0 rfl) rfl D1 rfl) ?_
     refine B7 rfl rfl (d7 rfl (A0 rfl) (A0 rfl)) ?_
     refine P7 ?_
     refine C8 (A0 rfl) ?_ ?_
     ·intro h75
      have k75 := of_decide_eq_true h75; try simp only [A6] at k75
      have hfin : areHeld s = false := by (unfold areHeld; rw [Y9 hlt (by rw [AA7 hx hy, hinv.2, drop_some hw, List.all_cons, decide_eq_false (show ¬ lastTime s.Cells w.Key < h.Time by omega)]; simp)]; rfl)
      refine A3 (A2 ?_)
      refine A1 rfl rfl rfl (C0 rfl F3) ?_
      refine A4 ?_
      refine C7 ?_
      exact I2 rfl (C3 rfl (by first | exact congrArg AV.bool hfin.symm | exact congrArg AV.bool (by unfold areHeld; rw [hall, Bool.true_and, List.nil_append, A6]; congr 1; rw [decide_eq_decide]; omega)))
     ·intro h75
      have k75 := of_decide_eq_false h75; try simp only [A6] at k75
      refine D2 (A2 ?_)
      refine A1 rfl rfl rfl (H0 rfl (A0 rfl) C2 (by first | omega | (simp only [A6, A8, B2, B6, A9, szR] at *; omega))) ?_
      refine A5 rfl rfl rfl rfl rfl ?_
      refine A4 ?_
      refine N0 r (r + 1) ?_ ?_ (U4 1 ⟨rfl, rfl, rfl, rfl, rfl, rfl, rfl, rfl, rfl, rfl, rfl, rfl, rfl, rfl, rfl, rfl, rfl, rfl, rfl, rfl, rfl, rfl, rfl, rfl, rfl, rfl, rfl, rfl, rfl, trivial⟩)
      ·exact ⟨by omega, by rw [hinv.2, drop_some hw, List.all_cons, decide_eq_true (show lastTime s.Cells w.Key < h.Time by omega)]; rfl⟩
      ·omega
    ·intro h65
     have k65 := of_decide_eq_false h65; try simp only [A6] at k65
     have hge3 : h.Writes.length ≤ r := by omega
     have hlw : (h.Writes.all fun w => decide (lastTime s.Cells w.Key < h.Time)) = true := by (rw [hinv.2, List.drop_eq_nil_of_le hge3]; rfl)
     refine I1 ?_
     refine A2 ?_
     refine A1 rfl rfl rfl (H0 rfl (A0 rfl) C2 (by first | omega | (simp only [A6, A8, B2, B6, A9, szR] at *; omega))) ?_
     refine A5 rfl rfl rfl rfl rfl ?_
     refine A4 ?_
     refine N0 i (i + 1) ?_ ?_ (U4 1 ⟨rfl, rfl, rfl, rfl, trivial⟩)
     ·exact ⟨by omega, fun j hj => if hji : j < i then hinv0.2 j hji else (by have e : j = i := (by omega); subst e; rw [AA7 hx hy, h43, hap, hlw]; rfl)⟩
     ·omega
 ·intro h13
  have k13 := of_decide_eq_false h13; try simp only [A6] at k13
  have hge : s.Held.length ≤ i := by omega
  have hall : allB s.Held.length (heldAt s) = true := o6.2 fun j hj => hinv.2 j (by omega)
  refine I1 ?_
  refine A3 (A2 ?_)
  refine A1 rfl rfl rfl (B4 2 rfl C4 rfl G4 (A0 rfl) rfl) ?_
  refine A1 rfl rfl rfl (B3 0 rfl (A0 rfl) rfl J8 rfl) ?_
  refine A1 rfl rfl rfl (I5 rfl D0 (A0 rfl)) ?_
  refine A1 rfl rfl rfl (T6 rfl (A0 rfl) C2) ?_
  refine A5 rfl rfl rfl rfl rfl ?_
  refine B1 rfl rfl (B9 rfl rfl rfl) (fun hc => F8 0 rfl (A0 rfl) rfl D8 C5 rfl) ?_
  refine B1 rfl rfl (B9 rfl rfl rfl) (fun hc => E5 rfl Tryz.call223 rfl (AX3 s [] hs (by decide)) (A7 (B0 rfl hc) (A7 AN7 C9))) ?_
  refine A1 rfl rfl rfl (I3 rfl (A0 rfl) (G0 rfl)) ?_
  refine B5 rfl rfl rfl rfl rfl ?_
  refine A4 ?_
  refine C7 ?_
  exact I2 rfl (C3 rfl (by first | exact congrArg AV.bool hfin.symm | exact congrArg AV.bool (by unfold areHeld; rw [hall, Bool.true_and, List.nil_append, A6]; congr 1; rw [decide_eq_decide]; omega)))
theorem AD7 (s : TState) (hs : s.size ≤ 400000) : FSpec Tryz.prog 102 [AV.agg s.cs] (AV.bool (goodState s)) := by
 obtain ⟨hs1, hs2, hs3, hs4, hs5⟩ := R4 hs
 refine E7 Tryz.func102 rfl Tryz.ntmps102 rfl ?_
 refine A3 (A2 ?_)
 refine L9 rfl rfl rfl rfl (A0 rfl) ?_
 intro b1
 refine A1 rfl rfl rfl (C0 rfl F3) ?_
 refine A4 (A3 (A3 (A2 ?_)))
 refine A1 rfl rfl rfl (B4 0 rfl C4 rfl C1 (A0 rfl) rfl) ?_
 refine A1 rfl rfl rfl (B3 0 rfl (A0 rfl) rfl D1 rfl) ?_
 refine A1 rfl rfl rfl (E5 rfl Tryz.call120 rfl (AQ5 _) (A7 (A0 rfl) C9)) ?_
 refine A1 rfl rfl rfl (J7 rfl (A0 rfl)) ?_
 refine A5 rfl rfl rfl rfl rfl ?_
 refine B1 rfl rfl (D4 rfl rfl rfl) (fun hc => B4 1 rfl C4 rfl O5 (A0 rfl) rfl) ?_
 refine B1 rfl rfl (D4 rfl rfl rfl) (fun hc => B3 0 rfl (B0 rfl hc) rfl Q5 rfl) ?_
 refine B1 rfl rfl (D4 rfl rfl rfl) (fun hc => E5 rfl Tryz.call201 rfl (AQ6 _ (by first | assumption | omega)) (A7 (B0 rfl hc) C9)) ?_
 refine B1 rfl rfl (D4 rfl rfl rfl) (fun hc => J7 rfl (B0 rfl hc)) ?_
 refine A1 rfl rfl rfl (P5 rfl (A0 rfl) (G0 rfl)) ?_
 refine A5 rfl rfl rfl rfl rfl ?_
 refine B1 rfl rfl (D4 rfl rfl rfl) (fun hc => F8 0 rfl (A0 rfl) rfl D8 C5 rfl) ?_
 refine B1 rfl rfl (D4 rfl rfl rfl) (fun hc => E5 rfl Tryz.call202 rfl (Ag0 s (V4 (by have h9 := hc; simp at h9; rw [U6]; exact h9.2)) hs) (A7 (B0 rfl hc) C9)) ?_
 refine B1 rfl rfl (D4 rfl rfl rfl) (fun hc => J7 rfl (B0 rfl hc)) ?_
 refine A1 rfl rfl rfl (P5 rfl (A0 rfl) (G0 rfl)) ?_
 refine A5 rfl rfl rfl rfl rfl ?_
 refine B1 rfl rfl (D4 rfl rfl rfl) (fun hc => B4 3 rfl C4 rfl K5 (A0 rfl) rfl) ?_
 refine B1 rfl rfl (D4 rfl rfl rfl) (fun hc => B3 0 rfl (B0 rfl hc) rfl Q0 rfl) ?_
 refine B1 rfl rfl (D4 rfl rfl rfl) (fun hc => I5 rfl E6 (B0 rfl hc)) ?_
 refine B1 rfl rfl (D4 rfl rfl rfl) (fun hc => P1 rfl (B0 rfl hc) C2) ?_
 refine A1 rfl rfl rfl (P5 rfl (A0 rfl) (G0 rfl)) ?_
 refine A4 ?_
 refine C8 (A0 rfl) ?_ ?_
 ·intro h29
  have hfin : goodState s = false := by (unfold goodState; simp only [Bool.or_eq_true, Bool.not_eq_true', decide_eq_true_eq, A6] at h29; rcases h29 with ((h | h) | h) | h; (rw [h]; rfl); (rw [U6, h]; simp); (rw [h]; simp); (rw [decide_eq_false (show ¬ s.Told.length ≤ 60 by omega)]; simp))
  refine A3 (A2 ?_)
  refine A1 rfl rfl rfl (C0 rfl F3) ?_
  refine A4 ?_
  refine C7 ?_
  exact I2 rfl (C3 rfl (by exact congrArg AV.bool hfin.symm))
 ·intro h29
  simp only [Bool.or_eq_false_iff, Bool.not_eq_false', decide_eq_false_iff_not, A6] at h29
  obtain ⟨⟨⟨q1, q2⟩, q3⟩, q4⟩ := h29
  have hco := V4 (by rw [U6]; exact q2)
  have hgs : goodState s = ((s.Cells.all fun c => decide (lastTime s.Cells c.Key ≤ s.Floor)) && allB s.Told.length (toldAt s)) := by (unfold goodState; rw [q1, U6, q2, q3, decide_eq_true (show s.Told.length ≤ 60 by omega)]; simp)
  refine D2 (A3 (A3 (A2 ?_)))
  refine A1 rfl rfl rfl (B4 1 rfl C4 rfl O5 (A0 rfl) rfl) ?_
  refine A1 rfl rfl rfl (B3 0 rfl (A0 rfl) rfl Q5 rfl) ?_
  refine A1 rfl rfl rfl (I5 rfl D6 (A0 rfl)) ?_
  refine A1 rfl rfl rfl (C6 rfl C2) ?_
  refine A4 (E1 ?_)
  refine K8 [(1, _), (31, _), (32, _)] _ (fun (i : Nat) => i ≤ s.Cells.length ∧ (s.Cells.all fun c => decide (lastTime s.Cells c.Key ≤ s.Floor)) = ((s.Cells.drop i).all fun c => decide (lastTime s.Cells c.Key ≤ s.Floor))) (fun (i : Nat) => []) (fun (i : Nat) => [(33, AV.int i)]) (fun (i : Nat) => s.Cells.length - i) (0) ?_ (L0 ⟨rfl, rfl, rfl, rfl, trivial⟩) ?_
  ·exact ⟨Nat.zero_le _, rfl⟩
  intro i hinv
  refine A3 (A2 ?_)
  refine A1 rfl rfl rfl (L4 rfl (A0 rfl) (A0 rfl)) ?_
  refine A4 (A3 ?_)
  refine C8 (A0 rfl) ?_ ?_
  ·intro h34
   have k34 := of_decide_eq_true h34; try simp only [A6] at k34
   have hlt : i < s.Cells.length := by omega
   obtain ⟨c, hx⟩ := get_some hlt
   refine D2 (A3 (E1 (A3 (A2 ?_))))
   refine A1 rfl rfl rfl (K0 rfl D6 F2 (A0 rfl) (A0 rfl) hx (by first | omega | (simp only [A6, A8, B2, B6, A9, szR] at *; omega))) ?_
   refine A1 rfl rfl rfl (L8 rfl (A0 rfl) T2 F2) ?_
   refine G5 rfl rfl rfl rfl Tryz.zeroValue142 rfl ?_
   intro b4
   refine D9 0 rfl rfl rfl (A0 rfl) (A0 rfl) (E9 _) rfl F2 rfl ?_
   refine A4 (A3 ?_)
   refine K9 (by kernel_rfl) (by kernel_rfl) rfl ?_
   refine B7 rfl rfl (B4 1 rfl C4 rfl O5 (A0 rfl) rfl) ?_
   refine B7 rfl rfl (B3 1 rfl (A0 rfl) rfl Q5 rfl) ?_
   refine B7 rfl rfl (B4 0 rfl G9 rfl E8 (A0 rfl) rfl) ?_
   refine B7 rfl rfl (B3 0 rfl (A0 rfl) rfl H2 rfl) ?_
   refine B7 rfl rfl (E5 rfl Tryz.call203 rfl (AE7 _ _ (by first | assumption | exact V4 (by rw [U6]; assumption)) (by first | assumption | omega)) (A7 (A0 rfl) (A7 (A0 rfl) C9))) ?_
   refine B7 rfl rfl (B4 0 rfl C4 rfl C1 (A0 rfl) rfl) ?_
   refine B7 rfl rfl (B3 1 rfl (A0 rfl) rfl D1 rfl) ?_
   refine B7 rfl rfl (P1 rfl (A0 rfl) (A0 rfl)) ?_
   refine P7 ?_
   refine C8 (A0 rfl) ?_ ?_
   ·intro h44
    have k44 := of_decide_eq_true h44; try simp only [A6] at k44
    have hfin : goodState s = false := by (rw [hgs, hinv.2, drop_some hx, List.all_cons, decide_eq_false (show ¬ lastTime s.Cells c.Key ≤ s.Floor by omega)]; rfl)
    refine A3 (A2 ?_)
    refine A1 rfl rfl rfl (C0 rfl F3) ?_
    refine A4 ?_
    refine C7 ?_
    exact I2 rfl (C3 rfl (by exact congrArg AV.bool hfin.symm))
   ·intro h44
    have k44 := of_decide_eq_false h44; try simp only [A6] at k44
    refine D2 (A2 ?_)
    refine A1 rfl rfl rfl (H0 rfl (A0 rfl) C2 (by first | omega | (simp only [A6, A8, B2, B6, A9, szR] at *; omega))) ?_
    refine A5 rfl rfl rfl rfl rfl ?_
    refine A4 ?_
    refine N0 i (i + 1) ?_ ?_ (U4 1 ⟨rfl, rfl, rfl, rfl, trivial⟩)
    ·exact ⟨by omega, by rw [hinv.2, drop_some hx, List.all_cons, decide_eq_true (show lastTime s.Cells c.Key ≤ s.Floor by omega)]; rfl⟩
    ·omega
  ·intro h34
   have k34 := of_decide_eq_false h34; try simp only [A6] at k34
   have hge : s.Cells.length ≤ i := by omega
   have hgs2 : goodState s = allB s.Told.length (toldAt s) := by (rw [hgs, hinv.2, List.drop_eq_nil_of_le hge]; rfl)
   refine I1 ?_
   refine A3 (A3 (A2 ?_))
   refine A1 rfl rfl rfl (B4 3 rfl C4 rfl K5 (A0 rfl) rfl) ?_
   refine A1 rfl rfl rfl (B3 0 rfl (A0 rfl) rfl Q0 rfl) ?_
   refine A1 rfl rfl rfl (I5 rfl E6 (A0 rfl)) ?_
   refine A1 rfl rfl rfl (C6 rfl C2) ?_
   refine A4 (E1 ?_)
   refine K8 [(1, _), (47, _), (48, _)] _ (fun (q : Nat) => q ≤ s.Told.length ∧ ∀ j, j < q → toldAt s j = true) (fun (q : Nat) => []) (fun (q : Nat) => [(49, AV.int q)]) (fun (q : Nat) => s.Told.length - q) (0) ?_ (L0 ⟨rfl, rfl, rfl, rfl, trivial⟩) ?_
   ·exact ⟨Nat.zero_le _, fun j hj => by omega⟩
   intro q hinv
   refine A3 (A2 ?_)
   refine A1 rfl rfl rfl (L4 rfl (A0 rfl) (A0 rfl)) ?_
   refine A4 (A3 ?_)
   refine C8 (A0 rfl) ?_ ?_
   ·intro h50
    have k50 := of_decide_eq_true h50; try simp only [A6] at k50
    have hlt : q < s.Told.length := by omega
    obtain ⟨t, hx⟩ := get_some hlt
    obtain ⟨y, hy⟩ := get_some (show q - 1 < s.Told.length by omega)
    refine D2 (A3 (E1 (A3 (A2 ?_))))
    refine A5 rfl rfl rfl rfl rfl ?_
    refine A1 rfl rfl rfl (K0 rfl E6 G7 (A0 rfl) (A0 rfl) hx (by first | omega | (simp only [A6, A8, B2, B6, A9, szR] at *; omega))) ?_
    refine A1 rfl rfl rfl (L8 rfl (A0 rfl) T4 G7) ?_
    refine G5 rfl rfl rfl rfl Tryz.zeroValue39 rfl ?_
    intro b6
    refine B5 rfl rfl rfl rfl rfl ?_
    refine D9 0 rfl rfl rfl (A0 rfl) (A0 rfl) (E9 _) rfl G7 rfl ?_
    refine A4 (A3 (A3 ?_))
    refine K9 (by kernel_rfl) (by kernel_rfl) rfl ?_
    refine B7 rfl rfl (B4 0 rfl I9 rfl C1 (A0 rfl) rfl) ?_
    refine B7 rfl rfl (B3 0 rfl (A0 rfl) rfl D1 rfl) ?_
    refine B7 rfl rfl (E5 rfl Tryz.call137 rfl (Z6 _ _ _) (A7 (A0 rfl) (A7 C2 (A7 C2 C9)))) ?_
    refine B7 rfl rfl (J7 rfl (A0 rfl)) ?_
    refine B7 rfl rfl (C6 rfl (A0 rfl)) ?_
    refine E0 rfl (D4 rfl rfl rfl) (fun hc => C6 rfl (A0 rfl)) ?_
    refine E0 rfl (D4 rfl rfl rfl) (fun hc => P1 rfl (B0 rfl hc) C2) ?_
    refine E0 rfl (D4 rfl rfl rfl) (fun hc => C6 rfl (B0 rfl hc)) ?_
    refine E0 rfl (E2 rfl rfl rfl) (fun hc => B4 3 rfl C4 rfl K5 (A0 rfl) rfl) ?_
    refine E0 rfl (E2 rfl rfl rfl) (fun hc => B3 1 rfl (B0 rfl hc) rfl Q0 rfl) ?_
    refine E0 rfl (E2 rfl rfl rfl) (fun hc => C6 rfl (A0 rfl)) ?_
    refine E0 rfl (E2 rfl rfl rfl) (fun hc => P8 rfl (B0 rfl hc) C2 (by first | omega | ((try simp only [A6, A8, B2, B6, A9, szR] at *); omega) | (have hc2 := hc; simp only [Bool.and_eq_true, Bool.or_eq_true, Bool.or_eq_false_iff, Bool.and_eq_false_iff, Bool.not_eq_true', Bool.not_eq_false', decide_eq_true_eq, decide_eq_false_iff_not, beq_iff_eq, bne_iff_ne, A6, A8] at hc2; omega))) ?_
    refine E0 rfl (E2 rfl rfl rfl) (fun hc => K0 rfl E6 G7 (B0 rfl hc) (B0 rfl hc) hy (by first | omega | ((try simp only [A6, A8, B2, B6, A9, szR] at *); omega) | (have hc2 := hc; simp only [Bool.and_eq_true, Bool.or_eq_true, Bool.or_eq_false_iff, Bool.and_eq_false_iff, Bool.not_eq_true', Bool.not_eq_false', decide_eq_true_eq, decide_eq_false_iff_not, beq_iff_eq, bne_iff_ne, A6, A8] at hc2; omega))) ?_
    refine E0 rfl (E2 rfl rfl rfl) (fun hc => W4 rfl I9 rfl C1 (B0 rfl hc) rfl) ?_
    refine E0 rfl (E2 rfl rfl rfl) (fun hc => O8 rfl (B0 rfl hc) D1 rfl) ?_
    refine E0 rfl (E2 rfl rfl rfl) (fun hc => B4 0 rfl I9 rfl C1 (A0 rfl) rfl) ?_
    refine E0 rfl (E2 rfl rfl rfl) (fun hc => B3 0 rfl (B0 rfl hc) rfl D1 rfl) ?_
    refine E0 rfl (E2 rfl rfl rfl) (fun hc => d7 rfl (B0 rfl hc) (B0 rfl hc)) ?_
    refine E0 rfl (D4 rfl rfl rfl) (fun hc => I3 rfl (B0 rfl hc) (P4 rfl hc)) ?_
    refine B7 rfl rfl (P5 rfl (A0 rfl) (G0 rfl)) ?_
    refine B7 rfl rfl (C6 rfl (A0 rfl)) ?_
    refine E0 rfl (D4 rfl rfl rfl) (fun hc => B4 1 rfl I9 rfl I8 (A0 rfl) rfl) ?_
    refine E0 rfl (D4 rfl rfl rfl) (fun hc => B3 0 rfl (B0 rfl hc) rfl L2 rfl) ?_
    refine E0 rfl (D4 rfl rfl rfl) (fun hc => C6 rfl (B0 rfl hc)) ?_
    refine E0 rfl (E2 rfl rfl rfl) (fun hc => B4 2 rfl I9 rfl C1 (A0 rfl) rfl) ?_
    refine E0 rfl (E2 rfl rfl rfl) (fun hc => B3 0 rfl (B0 rfl hc) rfl D1 rfl) ?_
    refine E0 rfl (E2 rfl rfl rfl) (fun hc => B4 0 rfl C4 rfl C1 (A0 rfl) rfl) ?_
    refine E0 rfl (E2 rfl rfl rfl) (fun hc => B3 1 rfl (B0 rfl hc) rfl D1 rfl) ?_
    refine E0 rfl (E2 rfl rfl rfl) (fun hc => E5 rfl Tryz.call137 rfl (Z6 _ _ _) (A7 (B0 rfl hc) (A7 C2 (A7 (B0 rfl hc) C9)))) ?_
    refine E0 rfl (E2 rfl rfl rfl) (fun hc => J7 rfl (B0 rfl hc)) ?_
    refine E0 rfl (D4 rfl rfl rfl) (fun hc => I3 rfl (B0 rfl hc) (P4 rfl hc)) ?_
    refine B7 rfl rfl (P5 rfl (A0 rfl) (G0 rfl)) ?_
    refine B7 rfl rfl (C6 rfl (A0 rfl)) ?_
    refine E0 rfl (D4 rfl rfl rfl) (fun hc => B4 1 rfl I9 rfl I8 (A0 rfl) rfl) ?_
    refine E0 rfl (D4 rfl rfl rfl) (fun hc => B3 0 rfl (B0 rfl hc) rfl L2 rfl) ?_
    refine E0 rfl (D4 rfl rfl rfl) (fun hc => J7 rfl (B0 rfl hc)) ?_
    refine E0 rfl (D4 rfl rfl rfl) (fun hc => C6 rfl (B0 rfl hc)) ?_
    refine E0 rfl (E2 rfl rfl rfl) (fun hc => B4 2 rfl I9 rfl C1 (A0 rfl) rfl) ?_
    refine E0 rfl (E2 rfl rfl rfl) (fun hc => B3 0 rfl (B0 rfl hc) rfl D1 rfl) ?_
    refine E0 rfl (E2 rfl rfl rfl) (fun hc => AG4 rfl (B0 rfl hc) C2) ?_
    refine E0 rfl (D4 rfl rfl rfl) (fun hc => I3 rfl (B0 rfl hc) (P4 rfl hc)) ?_
    refine B7 rfl rfl (P5 rfl (A0 rfl) (G0 rfl)) ?_
    refine P7 ?_
    refine C8 (A0 rfl) ?_ ?_
    ·intro h95
     have hfin : goodState s = false := by (rw [hgs2]; exact Y9 hlt (by rw [AI8 hx hy, h95]; rfl))
     refine A3 (A2 ?_)
     refine A1 rfl rfl rfl (C0 rfl F3) ?_
     refine A4 ?_
     refine C7 ?_
     exact I2 rfl (C3 rfl (by exact congrArg AV.bool hfin.symm))
    ·intro h95
     refine D2 (A3 (A2 ?_))
     refine A1 rfl rfl rfl (F8 1 rfl (A0 rfl) rfl D8 C5 rfl) ?_
     refine A1 rfl rfl rfl (B4 0 rfl I9 rfl C1 (A0 rfl) rfl) ?_
     refine A1 rfl rfl rfl (B3 0 rfl (A0 rfl) rfl D1 rfl) ?_
     refine A1 rfl rfl rfl (E5 rfl Tryz.call105 rfl (Al5 _ _ (by first | assumption | omega)) (A7 (A0 rfl) (A7 (A0 rfl) C9))) ?_
     refine A5 rfl rfl rfl rfl rfl ?_
     refine A1 rfl rfl rfl (F0 rfl (A0 rfl) rfl) ?_
     refine A1 rfl rfl rfl (F0 rfl (A0 rfl) rfl) ?_
     refine G5 rfl rfl rfl rfl Tryz.zeroValue45 rfl ?_
     intro b7
     refine D9 0 rfl rfl rfl (A0 rfl) (A0 rfl) (E9 _) rfl D3 rfl ?_
     refine B5 rfl rfl rfl rfl rfl ?_
     refine A4 (A3 (A2 ?_))
     refine A5 rfl rfl rfl rfl rfl ?_
     refine A4 ?_
     refine C8 (A0 rfl) ?_ ?_
     ·intro h103
      have hfin : goodState s = false := by (rw [hgs2]; exact Y9 hlt (by rw [AI8 hx hy, ← AN4, h103]; simp))
      refine A3 (A2 ?_)
      refine A1 rfl rfl rfl (C0 rfl F3) ?_
      refine A4 ?_
      refine C7 ?_
      exact I2 rfl (C3 rfl (by exact congrArg AV.bool hfin.symm))
     ·intro h103
      refine D2 (A2 ?_)
      refine A1 rfl rfl rfl (H0 rfl (A0 rfl) C2 (by first | omega | (simp only [A6, A8, B2, B6, A9, szR] at *; omega))) ?_
      refine A5 rfl rfl rfl rfl rfl ?_
      refine A4 ?_
      refine N0 q (q + 1) ?_ ?_ (U4 2 ⟨rfl, rfl, rfl, rfl, trivial⟩)
      ·exact ⟨by omega, fun j hj => if hji : j < q then hinv.2 j hji else (by have e : j = q := (by omega); subst e; rw [AI8 hx hy, h95, ← AN4, h103]; rfl)⟩
      ·omega
   ·intro h50
    have k50 := of_decide_eq_false h50; try simp only [A6] at k50
    have hge : s.Told.length ≤ q := by omega
    have hfin : goodState s = true := by (rw [hgs2]; exact o6.2 fun j hj => hinv.2 j (by omega))
    refine I1 ?_
    refine A3 (A2 ?_)
    refine A1 rfl rfl rfl (C0 rfl F3) ?_
    refine A4 ?_
    refine C7 ?_
    exact I2 rfl (C3 rfl (by exact congrArg AV.bool hfin.symm))
end Go.Proofs.YtnlhbdkcgaeimaaGreat

set_option linter.unusedVariables false
set_option linter.unusedSimpArgs false
set_option maxRecDepth 100000
namespace Go.Proofs.YtnlhbdkcgaeimaaGreat
open Go Go.AV Go.M
attribute [local irreducible] OpW OpA OpS AWP FSpec ESpec GSpec OpE RetOk RetOkG RvDen Le Ev GuardIs SrcIs
end Go.Proofs.YtnlhbdkcgaeimaaGreat

set_option linter.unusedVariables false
set_option linter.unusedSimpArgs false
set_option maxRecDepth 100000
namespace Go.Proofs.YtnlhbdkcgaeimaaGreat
open Go Go.AV Go.M
attribute [local irreducible] OpW OpA OpS AWP FSpec ESpec GSpec OpE RetOk RetOkG RvDen Le Ev GuardIs
end Go.Proofs.YtnlhbdkcgaeimaaGreat

set_option linter.unusedVariables false
set_option linter.unusedSimpArgs false
set_option maxRecDepth 100000
namespace Go.Proofs.YtnlhbdkcgaeimaaGreat
open Go Go.AV Go.M
attribute [local irreducible] OpW OpA OpS AWP FSpec ESpec GSpec OpE RetOk RetOkG RvDen Le Ev GuardIs SrcIs
end Go.Proofs.YtnlhbdkcgaeimaaGreat

set_option linter.unusedVariables false
set_option linter.unusedSimpArgs false
set_option maxRecDepth 100000
set_option maxHeartbeats 2000000
namespace Go.M
open Go.AV
structure SO (s : TState) : Prop where
  floor : 0 ≤ s.Floor
  cells : CellsOk s.Cells
  hsort : s.Held.Pairwise fun a b => a.Txn < b.Txn
  tsort : s.Told.Pairwise fun a b => a.Txn < b.Txn
  times : ∀ h ∈ s.Held, 1 ≤ h.Time
theorem gs_so {s : TState} (g : GS s) : SO s := ⟨g.floor.1, V4 g.cells, g.hsort, g.tsort, fun h hm => (AX1 g hm).1⟩
theorem Ar1 {t : Int} : ∀ {w : List TWrite} {l q : List TCell}, CellsOk l → putAll l w t = some q → CellsOk q
  | [], l, q, h, e => by simp [putAll] at e; subst e; exact h
  | x :: w, l, q, h, e => by
    unfold putAll at e
    split at e
    · cases e
    · exact Ar1 (e9 h _ _) e
theorem so_apply {s : TState} (g : SO s) {r : TRec} (h : (applyS s r).2 = true) : SO (applyS s r).1 := by
  have h0 := g.floor
  have hless : SO ⟨s.Floor, s.Cells, lessH s.Held r.Txn, s.Told⟩ := ⟨h0, g.cells, g.hsort.sublist List.filter_sublist, g.tsort, fun k hk => g.times k (Ad1.1 hk).1⟩
  unfold applyS at h ⊢
  by_cases h4 : r.Kind = 4
  · rw [if_pos h4] at h ⊢
    have := of_decide_eq_true h
    exact ⟨by dsimp only; omega, g.cells, g.hsort, g.tsort, g.times⟩
  · rw [if_neg h4] at h ⊢
    by_cases hT : hasT s.Told r.Txn = true
    · rw [if_pos hT] at h; cases h
    · rw [if_neg hT] at h ⊢
      rw [Bool.not_eq_true] at hT
      have htn := AI2.1 hT
      have htl : (insT ⟨r.Txn, r.Yes, r.Time⟩ s.Told).Pairwise fun a b => a.Txn < b.Txn := Ad0 g.tsort htn
      by_cases h1 : r.Kind = 1
      · rw [if_pos h1] at h ⊢
        simp only [Bool.and_eq_true, Bool.not_eq_true', decide_eq_true_eq] at h
        refine ⟨by dsimp only; omega, g.cells, AM2 g.hsort (i9.1 h.1.1), g.tsort, fun k hk => ?_⟩
        rcases i8.1 hk with rfl | hk
        · show 1 ≤ r.Time; omega
        · exact g.times k hk
      · rw [if_neg h1] at h ⊢
        by_cases hy : r.Yes = true
        · rw [if_pos hy] at h ⊢
          cases hf : findH s.Held r.Txn with
          | none => rw [hf] at h; cases h
          | some k =>
            rw [hf] at h
            dsimp only at h ⊢
            by_cases hlt : r.Time < k.Time
            · rw [if_pos hlt] at h; cases h
            · rw [if_neg hlt] at h ⊢
              by_cases hp : (putP s.Cells k.Writes r.Time).2 = true
              · rw [if_pos hp]
                exact ⟨by unfold doneS; dsimp only; split <;> omega, Ar1 g.cells (AY7 hp).1, hless.hsort, htl, hless.times⟩
              · rw [if_neg hp] at h; cases h
        · rw [if_neg hy]
          exact ⟨h0, g.cells, hless.hsort, htl, hless.times⟩
theorem so_step {s : TState} (g : SO s) (r : TRec) : SO (stepS s r) := by
  unfold stepS
  split
  · exact so_apply g ‹_›
  · exact g
theorem Ar2 : SO zState := gs_so gs_zero
theorem Aa1 : ∀ {l : List TRec} {s : TState}, SO s → SO (stFrom s l)
  | [], s, g => g
  | r :: l, s, g => by
    show SO (stFrom (stepS s r) l)
    exact Aa1 (so_step g r)
theorem AD8 {l : List THeld} {i : Nat} {h : THeld} {n : Int} (hx : l[i]? = some h) : lessH (l.take (i + 1)) n = if (h.Txn != n) = true then lessH (l.take i) n ++ [h] else lessH (l.take i) n := by
  unfold lessH
  rw [List.take_add_one, hx, List.filter_append]
  show _ ++ List.filter _ [h] = _
  split
  · rename_i e; rw [List.filter_cons_of_pos (p := fun h : THeld => h.Txn != n) e]; rfl
  · rename_i e; rw [List.filter_cons_of_neg (p := fun h : THeld => h.Txn != n) e]; simp
end Go.M
namespace Go.Proofs.YtnlhbdkcgaeimaaGreat
open Go Go.AV Go.M
attribute [local irreducible] OpW OpA OpS AWP FSpec ESpec GSpec OpE RetOk RetOkG RvDen Le Ev GuardIs SrcIs Int.tmod Int.tdiv IntKind.wrap
theorem AX4 (s : TState) (rs : List Str) (ws : List TWrite) (hs : s.size ≤ 400000) (hw : sizeL TWrite.size ws ≤ 400000) : FSpec Tryz.prog 126 [AV.agg s.cs, strs rs, AV.list 3 (ws.map TWrite.cs)] (AV.bool (fits s rs ws)) := by
 obtain ⟨hs1, hs2, hs3, hs4, hs5⟩ := R4 hs
 have hrm : room s.Cells (ws ++ hWs s.Held) = room s.Cells (hWs s.Held ++ ws) := Ac7 fun w => by rw [List.mem_append, List.mem_append, or_comm]
 refine E7 Tryz.func126 rfl Tryz.ntmps126 rfl ?_
 refine A3 (A2 ?_)
 refine L9 rfl rfl rfl rfl (A0 rfl) ?_
 intro b3
 refine A1 rfl rfl rfl (C0 rfl F3) ?_
 refine A4 (A3 (A3 (A2 ?_)))
 refine A1 rfl rfl rfl (B4 2 rfl C4 rfl G4 (A0 rfl) rfl) ?_
 refine A1 rfl rfl rfl (B3 0 rfl (A0 rfl) rfl J8 rfl) ?_
 refine A1 rfl rfl rfl (I5 rfl D0 (A0 rfl)) ?_
 refine A1 rfl rfl rfl (C6 rfl C2) ?_
 refine A4 (E1 ?_)
 refine K8 [(1, _), (2, _), (3, _), (10, _), (11, _)] _ (fun (i : Nat) => i ≤ s.Held.length ∧ (s.Held.all fun h => apart h rs ws) = ((s.Held.drop i).all fun h => apart h rs ws)) (fun (i : Nat) => []) (fun (i : Nat) => [(12, AV.int i)]) (fun (i : Nat) => s.Held.length - i) (0) ?_ (L0 ⟨rfl, rfl, rfl, rfl, rfl, rfl, trivial⟩) ?_
 ·exact ⟨Nat.zero_le _, rfl⟩
 intro i hinv
 refine A3 (A2 ?_)
 refine A1 rfl rfl rfl (L4 rfl (A0 rfl) (A0 rfl)) ?_
 refine A4 (A3 ?_)
 refine C8 (A0 rfl) ?_ ?_
 ·intro h13
  have k13 := of_decide_eq_true h13; try simp only [A6] at k13
  have hlt : i < s.Held.length := by omega
  obtain ⟨h, hx⟩ := get_some hlt
  refine D2 (A3 (E1 (A3 (A2 ?_))))
  refine A1 rfl rfl rfl (K0 rfl D0 D3 (A0 rfl) (A0 rfl) hx (by first | omega | (simp only [A6, A8, B2, B6, A9, szR] at *; omega))) ?_
  refine A1 rfl rfl rfl (L8 rfl (A0 rfl) H8 D3) ?_
  refine G5 rfl rfl rfl rfl Tryz.zeroValue45 rfl ?_
  intro b8
  refine D9 0 rfl rfl rfl (A0 rfl) (A0 rfl) (E9 _) rfl D3 rfl ?_
  refine A4 (A3 (A2 ?_))
  refine A1 rfl rfl rfl (F8 0 rfl (A0 rfl) rfl H8 D3 rfl) ?_
  refine A5 rfl rfl rfl rfl rfl ?_
  refine A5 rfl rfl rfl rfl rfl ?_
  refine A1 rfl rfl rfl (E5 rfl Tryz.call222 rfl (apart_spec _ _ _) (A7 (A0 rfl) (A7 (A0 rfl) (A7 (A0 rfl) C9)))) ?_
  refine A1 rfl rfl rfl (J7 rfl (A0 rfl)) ?_
  refine A4 ?_
  refine C8 (A0 rfl) ?_ ?_
  ·intro h20
   have hfin : fits s rs ws = false := by (unfold fits; rw [hinv.2, drop_some hx, List.all_cons, show apart h rs ws = false by simpa using h20]; rfl)
   refine A3 (A2 ?_)
   refine A1 rfl rfl rfl (C0 rfl F3) ?_
   refine A4 ?_
   refine C7 ?_
   exact I2 rfl (C3 rfl (by first | exact congrArg AV.bool hfin.symm | exact congrArg AV.bool (by unfold fits; rw [hap, hrm, Bool.true_and, A6]; congr 1; rw [decide_eq_decide]; omega)))
  ·intro h20
   refine D2 (A2 ?_)
   refine A1 rfl rfl rfl (H0 rfl (A0 rfl) C2 (by first | omega | (simp only [A6, A8, B2, B6, A9, szR] at *; omega))) ?_
   refine A5 rfl rfl rfl rfl rfl ?_
   refine A4 ?_
   refine N0 i (i + 1) ?_ ?_ (U4 1 ⟨rfl, rfl, rfl, rfl, rfl, rfl, trivial⟩)
   ·exact ⟨by omega, by rw [hinv.2, drop_some hx, List.all_cons, show apart h rs ws = true by simpa using h20]; rfl⟩
   ·omega
 ·intro h13
  have k13 := of_decide_eq_false h13; try simp only [A6] at k13
  have hge : s.Held.length ≤ i := by omega
  have hap : (s.Held.all fun h => apart h rs ws) = true := by (rw [hinv.2, List.drop_eq_nil_of_le hge]; rfl)
  refine I1 ?_
  refine A3 (A2 ?_)
  refine A1 rfl rfl rfl (B4 2 rfl C4 rfl G4 (A0 rfl) rfl) ?_
  refine A1 rfl rfl rfl (B3 0 rfl (A0 rfl) rfl J8 rfl) ?_
  refine A1 rfl rfl rfl (I5 rfl D0 (A0 rfl)) ?_
  refine A1 rfl rfl rfl (L4 rfl (A0 rfl) C2) ?_
  refine A5 rfl rfl rfl rfl rfl ?_
  refine B1 rfl rfl (B9 rfl rfl rfl) (fun hc => F8 0 rfl (A0 rfl) rfl D8 C5 rfl) ?_
  refine B1 rfl rfl (B9 rfl rfl rfl) (fun hc => C6 rfl (A0 rfl)) ?_
  refine B1 rfl rfl (B9 rfl rfl rfl) (fun hc => E5 rfl Tryz.call223 rfl (AX3 _ _ (by first | assumption | omega) (by first | assumption | omega)) (A7 (B0 rfl hc) (A7 (B0 rfl hc) C9))) ?_
  refine A1 rfl rfl rfl (I3 rfl (A0 rfl) (G0 rfl)) ?_
  refine B5 rfl rfl rfl rfl rfl ?_
  refine A4 ?_
  refine C7 ?_
  exact I2 rfl (C3 rfl (by first | exact congrArg AV.bool hfin.symm | exact congrArg AV.bool (by unfold fits; rw [hap, hrm, Bool.true_and, A6]; congr 1; rw [decide_eq_decide]; omega)))
theorem Ao1 (h : THeld) (hs : h.size ≤ 1048576) : GSpec Tryz.prog 106 [AV.agg h.cs] [] (fun _ : Value × Value => True) (fun x => THeld.ow h x) (fun x => AV.agg (THeld.ocs h x)) := by
 have h3 := O1 (f := fun x : Str => x.length) (l := h.Reads)
 have h4 := O1 (f := TWrite.size) (l := h.Writes)
 have h5 : h.size = sizeL (fun x => x.length) h.Reads + sizeL TWrite.size h.Writes := rfl
 refine H7 Tryz.func106 rfl Tryz.ntmps106 rfl ?_
 refine A3 (A2 ?_)
 refine L9 rfl rfl rfl rfl (A0 rfl) ?_
 intro b1
 refine G5 rfl rfl rfl rfl Tryz.zeroValue45 rfl ?_
 intro b2
 refine A4 (A3 (A2 ?_))
 refine A1 rfl rfl rfl (B4 3 rfl F1 rfl M3 (A0 rfl) rfl) ?_
 refine A1 rfl rfl rfl (B3 1 rfl (A0 rfl) rfl P3 rfl) ?_
 refine I0 [] rfl rfl rfl rfl Tryz.call169 rfl (AA5 h.Reads (by omega)) (A7 (A0 rfl) C9) rfl ?_
 intro x5 ok5
 refine A1 rfl rfl rfl (B4 3 rfl F1 rfl M3 (A0 rfl) rfl) ?_
 refine Q8 0 rfl fun one_x5 => ?_
 refine J4 2 rfl rfl rfl (A0 rfl) (A0 rfl) (R5 one_x5) rfl M3 rfl ?_
 refine A4 (A3 (A2 ?_))
 refine R8 rfl rfl rfl rfl F7 H4 ?_
 intro v7
 refine A1 rfl rfl rfl (B4 4 rfl F1 rfl K4 (A0 rfl) rfl) ?_
 refine A1 rfl rfl rfl (B3 3 rfl (A0 rfl) rfl L7 rfl) ?_
 refine M6 (by' := 40) 0 rfl rfl rfl rfl F7 Tryz.type77 rfl rfl rfl rfl rfl rfl (A0 rfl) (A0 rfl) rfl (by simp only [B6, A6]; omega) ?_
 intro v10_1
 refine A1 rfl rfl rfl (B4 4 rfl F1 rfl K4 (A0 rfl) rfl) ?_
 refine Q8 0 rfl fun one_v10_1 => ?_
 refine J4 3 rfl rfl rfl (A0 rfl) (A0 rfl) (R5 one_v10_1) rfl K4 rfl ?_
 refine A4 (A3 (A2 ?_))
 refine A1 rfl rfl rfl (F8 3 rfl (A0 rfl) rfl H8 D3 rfl) ?_
 refine D9 2 rfl rfl rfl (A0 rfl) (A0 rfl) (E9 _) rfl D3 rfl ?_
 refine A4 ?_
 refine C7 ?_
 exact J6 [1, 0] (x5, v10_1) (trivial) rfl (by rfl) (N2 rfl (J9 (ys := _) 2 rfl rfl H8 D3 rfl))
theorem AC4 (h : THeld) (hs : h.size ≤ 1048576) : FSpec Tryz.prog 106 [AV.agg h.cs] (AV.agg h.cs) :=
  V0 (Ao1 h hs) fun x _ => Y0 (THeld.lc h x)
theorem Ao2 (l : List TCell) (hs : sizeL TCell.size l ≤ 4194304) : FSpec Tryz.prog 208 [AV.list 2 (l.map TCell.cs)] (AV.list 2 (l.map TCell.cs)) :=
  V0 (Ad8 l hs) fun x h => i7 TCell.lcM h 0 rfl fun o ho => List.mem_cons_of_mem _ ho
theorem Al7 (l : List THeld) (n : Int) (hl : l.length ≤ 1048576) : GSpec Tryz.prog 206 [AV.list 5 (l.map THeld.cs), AV.int n] [] (fun _ : Value => True) (fun v => [.arr v 45 5 ((lessH l n).map THeld.cs)]) (fun v => AV.is v) := by
 refine H7 Tryz.func206 rfl Tryz.ntmps206 rfl ?_
 refine A3 (A2 ?_)
 refine A1 rfl rfl rfl (C0 rfl K1) ?_
 refine A4 (A3 (A2 ?_))
 refine P9 45 5 rfl rfl rfl rfl K1 ?_
 intro v5
 refine A4 (A3 (A3 (A2 ?_)))
 refine A5 rfl rfl rfl rfl rfl ?_
 refine A1 rfl rfl rfl (I5 rfl D0 (A0 rfl)) ?_
 refine A1 rfl rfl rfl (C6 rfl C2) ?_
 refine A4 (E1 ?_)
 refine Y7 [(1, _), (4, _), (8, _), (9, _)] _ (fun (i : Nat) (v : Value) (q : List THeld) => i ≤ l.length ∧ q = lessH (l.take i) n ∧ q.length ≤ i) (fun (i : Nat) (v : Value) (q : List THeld) => [.arr v 45 5 (q.map THeld.cs)]) (fun (i : Nat) (v : Value) (q : List THeld) => [(5, AV.is v), (10, AV.int i)]) (fun (i : Nat) (v : Value) (q : List THeld) => l.length - i) (0) (v5) ([]) ?_ (S9 (by rfl) ⟨rfl, rfl, rfl, rfl, rfl, rfl, trivial⟩) ?_
 ·exact ⟨Nat.zero_le _, rfl, Nat.le_refl _⟩
 intro i v q hinv
 refine A3 (A2 ?_)
 refine A1 rfl rfl rfl (L4 rfl (A0 rfl) (A0 rfl)) ?_
 refine A4 (A3 ?_)
 refine C8 (A0 rfl) ?_ ?_
 ·intro h11
  have k11 := of_decide_eq_true h11; try simp only [A6] at k11
  have hlt : i < l.length := by omega
  obtain ⟨h, hx⟩ := get_some hlt
  refine D2 (A3 (E1 (A3 (A2 ?_))))
  refine A1 rfl rfl rfl (K0 rfl D0 D3 (A0 rfl) (A0 rfl) hx (by first | omega | (simp only [A6, A8, B2, B6, A9, szR] at *; omega))) ?_
  refine A1 rfl rfl rfl (L8 rfl (A0 rfl) H8 D3) ?_
  refine G5 rfl rfl rfl rfl Tryz.zeroValue45 rfl ?_
  intro b7
  refine D9 0 rfl rfl rfl (A0 rfl) (A0 rfl) (E9 _) rfl D3 rfl ?_
  refine A4 (A3 (A2 ?_))
  refine A1 rfl rfl rfl (B4 0 rfl F1 rfl C1 (A0 rfl) rfl) ?_
  refine A1 rfl rfl rfl (B3 0 rfl (A0 rfl) rfl D1 rfl) ?_
  refine A5 rfl rfl rfl rfl rfl ?_
  refine A1 rfl rfl rfl (AG4 rfl (A0 rfl) (A0 rfl)) ?_
  refine A4 ?_
  refine C8 (A0 rfl) ?_ ?_
  ·intro h17
   have k17 := Aa5 h17; try simp only [A6] at k17
   refine A2 ?_
   refine A5 rfl rfl rfl rfl rfl ?_
   refine A1 rfl rfl rfl (F8 0 rfl (A0 rfl) rfl H8 D3 rfl) ?_
   refine A1 rfl rfl rfl (M8 rfl D0 D3 Tryz.zeroValue45 rfl rfl rfl rfl (D7 (A0 rfl) (E9 _) H6) rfl rfl) ?_
   refine M6 (by' := 72) 1 rfl rfl rfl rfl D0 Tryz.type45 rfl rfl rfl rfl rfl rfl (A0 rfl) (A0 rfl) rfl (by first | omega | (simp only [A6, A8, B2, B6, A9, szR] at *; omega)) ?_
   intro v21_1
   refine B5 rfl rfl rfl rfl rfl ?_
   refine A4 (A2 ?_)
   refine A1 rfl rfl rfl (H0 rfl (A0 rfl) C2 (by first | omega | (simp only [A6, A8, B2, B6, A9, szR] at *; omega))) ?_
   refine A5 rfl rfl rfl rfl rfl ?_
   refine A4 ?_
   refine V5 i v q (i + 1) (v21_1) (q ++ [h]) ?_ ?_ (Le.trans (J2 [0, 0] rfl) (N4 1 (by first | rfl | (rw [List.map_append]; rfl)) ⟨rfl, rfl, rfl, rfl, rfl, rfl, trivial⟩))
   ·first | exact ⟨by omega, by rw [AD8 hx, if_pos h17, hinv.2.1], by rw [H9]; simp; omega⟩ | exact ⟨by omega, by rw [AD8 hx, if_neg (by rw [h17]; decide), hinv.2.1], by omega⟩
   ·omega
  ·intro h17
   have k17 := AC8 h17; try simp only [A6] at k17
   refine D2 (A2 ?_)
   refine A1 rfl rfl rfl (H0 rfl (A0 rfl) C2 (by first | omega | (simp only [A6, A8, B2, B6, A9, szR] at *; omega))) ?_
   refine A5 rfl rfl rfl rfl rfl ?_
   refine A4 ?_
   refine V5 i v q (i + 1) (v) (q) ?_ ?_ (Le.trans (J2 [0, 0] rfl) (N4 1 (by first | rfl | (rw [List.map_append]; rfl)) ⟨rfl, rfl, rfl, rfl, rfl, rfl, trivial⟩))
   ·first | exact ⟨by omega, by rw [AD8 hx, if_pos h17, hinv.2.1], by rw [H9]; simp; omega⟩ | exact ⟨by omega, by rw [AD8 hx, if_neg (by rw [h17]; decide), hinv.2.1], by omega⟩
   ·omega
 ·intro h11
  have k11 := of_decide_eq_false h11; try simp only [A6] at k11
  have hge : l.length ≤ i := by omega
  have hq := hinv.2.1
  rw [List.take_of_length_le hge] at hq
  rw [← hq]
  refine I1 ?_
  refine A3 (A2 ?_)
  refine A5 rfl rfl rfl rfl rfl ?_
  refine B5 rfl rfl rfl rfl rfl ?_
  refine A4 ?_
  refine C7 ?_
  exact J6 [0] v (trivial) rfl (by rfl) (N2 rfl (C3 rfl (by rfl)))
theorem put_csH (l : List THeld) (k : Nat) (x : THeld) : (l.take k ++ x :: l.drop k).map THeld.cs = [] ++ (l.take (k : Int).toNat).map THeld.cs ++ [x.cs] ++ ([] ++ (l.drop (k : Int).toNat).map THeld.cs) := by simp
theorem Ao3 (l : List THeld) (h : THeld) (hs : l.Pairwise fun a b => a.Txn < b.Txn) (hl : l.length ≤ 1048576) : GSpec Tryz.prog 204 [AV.list 5 (l.map THeld.cs), AV.agg h.cs] [] (fun _ : Value => True) (fun v => [.arr v 45 5 ((insH h l).map THeld.cs)]) (fun v => AV.is v) := by
 refine H7 Tryz.func204 rfl Tryz.ntmps204 rfl ?_
 refine A3 (A2 ?_)
 refine L9 rfl rfl rfl rfl (A0 rfl) ?_
 intro b3
 refine A1 rfl rfl rfl (C0 rfl K1) ?_
 refine A4 (A3 (A2 ?_))
 refine A5 rfl rfl rfl rfl rfl ?_
 refine A1 rfl rfl rfl (I5 rfl D0 (A0 rfl)) ?_
 refine B5 rfl rfl rfl rfl rfl ?_
 refine A4 (A3 (E1 ?_))
 refine K8 [(0, _), (3, _), (4, _)] _ (fun (k : Nat) => k ≤ l.length ∧ ∀ i y, k ≤ i → l[i]? = some y → h.Txn < y.Txn) (fun (k : Nat) => []) (fun (k : Nat) => [(5, AV.int k)]) (fun (k : Nat) => k) (l.length) ?_ (L0 ⟨congrArg (fun z => some (AV.int z)) (by rw [A6]), rfl, rfl, rfl, trivial⟩) ?_
 ·exact ⟨Nat.le_refl _, fun i y h1 h2 => by (have := (List.getElem?_eq_some_iff.1 h2).1; omega)⟩
 intro k hinv
 obtain ⟨y, hy0⟩ : ∃ y : THeld, 0 < k → l[k - 1]? = some y := by (by_cases h9 : 0 < k; (have h8 := hinv.1; exact ⟨_, fun _ => List.getElem?_eq_getElem (show k - 1 < l.length by omega)⟩); exact ⟨h, fun h8 => absurd h8 h9⟩)
 have hk1 : 0 < k → ((k : Int) - 1).toNat = k - 1 := fun _ => by omega
 refine A3 (A3 ?_)
 refine K9 (by kernel_rfl) (by kernel_rfl) rfl ?_
 refine B7 rfl rfl (C6 rfl (A0 rfl)) ?_
 refine B7 rfl rfl (P1 rfl (A0 rfl) C2) ?_
 refine B7 rfl rfl (C6 rfl (A0 rfl)) ?_
 refine E0 rfl (B9 rfl rfl rfl) (fun hc => C6 rfl (A0 rfl)) ?_
 refine E0 rfl (B9 rfl rfl rfl) (fun hc => C6 rfl (A0 rfl)) ?_
 refine E0 rfl (B9 rfl rfl rfl) (fun hc => P8 rfl (B0 rfl hc) C2 (by first | omega | ((try simp only [A6, A8, B2, B6, A9, szR] at *); omega) | (have hc2 := hc; simp only [Bool.and_eq_true, Bool.or_eq_true, Bool.or_eq_false_iff, Bool.and_eq_false_iff, Bool.not_eq_true', Bool.not_eq_false', decide_eq_true_eq, decide_eq_false_iff_not, beq_iff_eq, bne_iff_ne, A6, A8] at hc2; omega))) ?_
 refine E0 rfl (B9 rfl rfl rfl) (fun hc => AC9 rfl D0 D3 (B0 rfl hc) (B0 rfl hc) (by have := of_decide_eq_true hc; have := hinv.1; omega) (by have h9 := of_decide_eq_true hc; rw [hk1 (by omega), List.getElem?_map, hy0 (by omega)]; rfl)) ?_
 refine E0 rfl (B9 rfl rfl rfl) (fun hc => W4 rfl F1 rfl C1 (B0 rfl hc) rfl) ?_
 refine E0 rfl (B9 rfl rfl rfl) (fun hc => O8 rfl (B0 rfl hc) D1 rfl) ?_
 refine E0 rfl (B9 rfl rfl rfl) (fun hc => B4 0 rfl F1 rfl C1 (A0 rfl) rfl) ?_
 refine E0 rfl (B9 rfl rfl rfl) (fun hc => B3 0 rfl (B0 rfl hc) rfl D1 rfl) ?_
 refine E0 rfl (B9 rfl rfl rfl) (fun hc => P1 rfl (B0 rfl hc) (B0 rfl hc)) ?_
 refine B7 rfl rfl (I3 rfl (A0 rfl) (G0 rfl)) ?_
 refine P7 ?_
 refine C8 (A0 rfl) ?_ ?_
 ·intro h21
  have hkt : 0 < k ∧ h.Txn < y.Txn := by simpa using h21
  refine D2 (E1 (A2 ?_))
  refine A5 rfl rfl rfl rfl rfl ?_
  refine A1 rfl rfl rfl (P8 rfl (A0 rfl) C2 (by first | omega | (simp only [A6, A8, B2, B6, A9, szR] at *; omega))) ?_
  refine B5 rfl rfl rfl rfl rfl ?_
  refine A4 ?_
  refine j3 ?_
  refine N0 k (k - 1) ?_ ?_ (L0 ⟨congrArg (fun z => some (AV.int z)) (by omega), rfl, rfl, rfl, trivial⟩)
  ·exact ⟨by omega, fun i z hi hz => if e : k ≤ i then hinv.2 i z e hz else (by have e2 : i = k - 1 := (by omega); subst e2; rw [hy0 hkt.1] at hz; injection hz with hz; subst hz; exact hkt.2)⟩
  ·omega
 ·intro h21
  have hng : 0 < k → ¬ h.Txn < y.Txn := fun h9 => by simpa [h9] using h21
  have hput : insH h l = l.take k ++ h :: l.drop k := AN0 hinv.1 (fun i x hi hx => by have h7 := hy0 (by omega); have h8 := hng (by omega); rcases Nat.lt_or_ge i (k - 1) with h6 | h6; (have := AB3 (f := THeld.Txn) hs h6 hx h7; omega); (have : i = k - 1 := (by omega); subst this; rw [hx] at h7; injection h7 with h7; subst h7; omega)) (fun x hx => hinv.2 k x (Nat.le_refl _) hx)
  rw [hput]
  refine I1 ?_
  refine A3 (A2 ?_)
  refine R8 rfl rfl rfl rfl D0 D3 ?_
  intro v24
  refine A5 rfl rfl rfl rfl rfl ?_
  refine A5 rfl rfl rfl rfl rfl ?_
  refine A1 rfl rfl rfl (Aa8 rfl D0 D3 (A0 rfl) (A0 rfl) (by omega) (by first | omega | (simp only [A6]; omega))) ?_
  refine M6 (by' := 72) 0 rfl rfl rfl rfl D0 Tryz.type45 rfl rfl rfl rfl rfl rfl (A0 rfl) (A0 rfl) rfl (by simp only [B6, A6, List.length_drop]; omega) ?_
  intro v28_1
  refine B5 rfl rfl rfl rfl rfl ?_
  refine A4 (A3 ?_)
  refine AWP.le (Y6 [0] 6 rfl rfl (M2 (G2 (i := 0) rfl) I7) R7) ?_
  refine S0 _ [(1, false), (2, false), (3, false), (5, false), (6, false), (8, false), (0, true), (4, true), (7, true), (9, true)] (by kernel_rfl) (by kernel_rfl) rfl p6 ?_
  refine F9 rfl rfl rfl (fun ext => C6 rfl (A0 rfl)) ?_
  refine F9 rfl rfl rfl (fun ext => C6 rfl (A0 rfl)) ?_
  refine F9 rfl rfl rfl (fun ext => AD0 rfl D0 D3 (A0 rfl) (A0 rfl) (by omega) (by first | omega | (simp only [A6]; omega))) ?_
  refine F9 rfl rfl rfl (fun ext => F8 0 rfl (A0 rfl) rfl H8 D3 rfl) ?_
  refine F9 rfl rfl rfl (fun ext => M8 rfl D0 D3 Tryz.zeroValue45 rfl rfl rfl rfl (D7 (A0 rfl) (E9 _) H6) rfl rfl) ?_
  refine F9 rfl rfl rfl (fun ext => C6 rfl (A0 rfl)) ?_
  refine T5 rfl rfl rfl (g8 rfl D0 D3) (fun a _ => (by first | exact G1 rfl | exact G1 (List.append_assoc _ _ _) | exact J1)) ?_
  intro v29 _
  refine T5 rfl rfl rfl (Q1 (by' := 72) 1 rfl D0 Tryz.type45 rfl rfl rfl rfl rfl rfl (A0 rfl) (A0 rfl) rfl (by simp only [B6, List.nil_append, H9, A8, List.length_drop, B2, A6, A9]; omega)) (fun a _ => (by first | exact G1 rfl | exact G1 (List.append_assoc _ _ _) | exact J1)) ?_
  intro v33_2 _
  refine T5 rfl rfl rfl (Q1 (by' := 72) 1 rfl D0 Tryz.type45 rfl rfl rfl rfl rfl rfl (A0 rfl) (A0 rfl) rfl (by simp only [B6, List.nil_append, H9, A8, List.length_drop, B2, A6, A9]; omega)) (fun a _ => (by first | exact G1 rfl | exact G1 (List.append_assoc _ _ _) | exact J1)) ?_
  intro v36_3 _
  refine T5 rfl rfl rfl (Q1 (by' := 72) 1 rfl D0 Tryz.type45 rfl rfl rfl rfl rfl rfl (A0 rfl) (A0 rfl) rfl (by simp only [B6, List.nil_append, H9, A8, List.length_drop, B2, A6, A9]; omega)) (fun a _ => (by first | exact G1 rfl | exact G1 (List.append_assoc _ _ _) | exact J1)) ?_
  intro v38_4 _
  refine j4 ?_
  refine B5 rfl rfl rfl rfl rfl ?_
  refine A4 ?_
  refine C7 ?_
  exact J6 [1] v38_4 (trivial) rfl (by first | rfl | exact congrArg (fun z => [Own.arr _ 45 5 z]) (put_csH _ _ _)) (N2 rfl (C3 rfl (by rfl)))
theorem put_csT (l : List TTold) (k : Nat) (x : TTold) : (l.take k ++ x :: l.drop k).map TTold.cs = [] ++ (l.take (k : Int).toNat).map TTold.cs ++ [x.cs] ++ ([] ++ (l.drop (k : Int).toNat).map TTold.cs) := by simp
theorem AR5 (l : List TTold) (h : TTold) (hs : l.Pairwise fun a b => a.Txn < b.Txn) (hl : l.length ≤ 1048576) : GSpec Tryz.prog 207 [AV.list 3 (l.map TTold.cs), AV.agg h.cs] [] (fun _ : Value => True) (fun v => [.arr v 39 3 ((insT h l).map TTold.cs)]) (fun v => AV.is v) := by
 refine H7 Tryz.func207 rfl Tryz.ntmps207 rfl ?_
 refine A3 (A2 ?_)
 refine L9 rfl rfl rfl rfl (A0 rfl) ?_
 intro b3
 refine A1 rfl rfl rfl (C0 rfl K1) ?_
 refine A4 (A3 (A2 ?_))
 refine A5 rfl rfl rfl rfl rfl ?_
 refine A1 rfl rfl rfl (I5 rfl E6 (A0 rfl)) ?_
 refine B5 rfl rfl rfl rfl rfl ?_
 refine A4 (A3 (E1 ?_))
 refine K8 [(0, _), (3, _), (4, _)] _ (fun (k : Nat) => k ≤ l.length ∧ ∀ i y, k ≤ i → l[i]? = some y → h.Txn < y.Txn) (fun (k : Nat) => []) (fun (k : Nat) => [(5, AV.int k)]) (fun (k : Nat) => k) (l.length) ?_ (L0 ⟨congrArg (fun z => some (AV.int z)) (by rw [A6]), rfl, rfl, rfl, trivial⟩) ?_
 ·exact ⟨Nat.le_refl _, fun i y h1 h2 => by (have := (List.getElem?_eq_some_iff.1 h2).1; omega)⟩
 intro k hinv
 obtain ⟨y, hy0⟩ : ∃ y : TTold, 0 < k → l[k - 1]? = some y := by (by_cases h9 : 0 < k; (have h8 := hinv.1; exact ⟨_, fun _ => List.getElem?_eq_getElem (show k - 1 < l.length by omega)⟩); exact ⟨h, fun h8 => absurd h8 h9⟩)
 have hk1 : 0 < k → ((k : Int) - 1).toNat = k - 1 := fun _ => by omega
 refine A3 (A3 ?_)
 refine K9 (by kernel_rfl) (by kernel_rfl) rfl ?_
 refine B7 rfl rfl (C6 rfl (A0 rfl)) ?_
 refine B7 rfl rfl (P1 rfl (A0 rfl) C2) ?_
 refine B7 rfl rfl (C6 rfl (A0 rfl)) ?_
 refine E0 rfl (B9 rfl rfl rfl) (fun hc => C6 rfl (A0 rfl)) ?_
 refine E0 rfl (B9 rfl rfl rfl) (fun hc => C6 rfl (A0 rfl)) ?_
 refine E0 rfl (B9 rfl rfl rfl) (fun hc => P8 rfl (B0 rfl hc) C2 (by first | omega | ((try simp only [A6, A8, B2, B6, A9, szR] at *); omega) | (have hc2 := hc; simp only [Bool.and_eq_true, Bool.or_eq_true, Bool.or_eq_false_iff, Bool.and_eq_false_iff, Bool.not_eq_true', Bool.not_eq_false', decide_eq_true_eq, decide_eq_false_iff_not, beq_iff_eq, bne_iff_ne, A6, A8] at hc2; omega))) ?_
 refine E0 rfl (B9 rfl rfl rfl) (fun hc => AC9 rfl E6 G7 (B0 rfl hc) (B0 rfl hc) (by have := of_decide_eq_true hc; have := hinv.1; omega) (by have h9 := of_decide_eq_true hc; rw [hk1 (by omega), List.getElem?_map, hy0 (by omega)]; rfl)) ?_
 refine E0 rfl (B9 rfl rfl rfl) (fun hc => W4 rfl I9 rfl C1 (B0 rfl hc) rfl) ?_
 refine E0 rfl (B9 rfl rfl rfl) (fun hc => O8 rfl (B0 rfl hc) D1 rfl) ?_
 refine E0 rfl (B9 rfl rfl rfl) (fun hc => B4 0 rfl I9 rfl C1 (A0 rfl) rfl) ?_
 refine E0 rfl (B9 rfl rfl rfl) (fun hc => B3 0 rfl (B0 rfl hc) rfl D1 rfl) ?_
 refine E0 rfl (B9 rfl rfl rfl) (fun hc => P1 rfl (B0 rfl hc) (B0 rfl hc)) ?_
 refine B7 rfl rfl (I3 rfl (A0 rfl) (G0 rfl)) ?_
 refine P7 ?_
 refine C8 (A0 rfl) ?_ ?_
 ·intro h21
  have hkt : 0 < k ∧ h.Txn < y.Txn := by simpa using h21
  refine D2 (E1 (A2 ?_))
  refine A5 rfl rfl rfl rfl rfl ?_
  refine A1 rfl rfl rfl (P8 rfl (A0 rfl) C2 (by first | omega | (simp only [A6, A8, B2, B6, A9, szR] at *; omega))) ?_
  refine B5 rfl rfl rfl rfl rfl ?_
  refine A4 ?_
  refine j3 ?_
  refine N0 k (k - 1) ?_ ?_ (L0 ⟨congrArg (fun z => some (AV.int z)) (by omega), rfl, rfl, rfl, trivial⟩)
  ·exact ⟨by omega, fun i z hi hz => if e : k ≤ i then hinv.2 i z e hz else (by have e2 : i = k - 1 := (by omega); subst e2; rw [hy0 hkt.1] at hz; injection hz with hz; subst hz; exact hkt.2)⟩
  ·omega
 ·intro h21
  have hng : 0 < k → ¬ h.Txn < y.Txn := fun h9 => by simpa [h9] using h21
  have hput : insT h l = l.take k ++ h :: l.drop k := AN1 hinv.1 (fun i x hi hx => by have h7 := hy0 (by omega); have h8 := hng (by omega); rcases Nat.lt_or_ge i (k - 1) with h6 | h6; (have := AB3 (f := TTold.Txn) hs h6 hx h7; omega); (have : i = k - 1 := (by omega); subst this; rw [hx] at h7; injection h7 with h7; subst h7; omega)) (fun x hx => hinv.2 k x (Nat.le_refl _) hx)
  rw [hput]
  refine I1 ?_
  refine A3 (A2 ?_)
  refine R8 rfl rfl rfl rfl E6 G7 ?_
  intro v24
  refine A5 rfl rfl rfl rfl rfl ?_
  refine A5 rfl rfl rfl rfl rfl ?_
  refine A1 rfl rfl rfl (Aa8 rfl E6 G7 (A0 rfl) (A0 rfl) (by omega) (by first | omega | (simp only [A6]; omega))) ?_
  refine M6 (by' := 24) 0 rfl rfl rfl rfl E6 Tryz.type39 rfl rfl rfl rfl rfl rfl (A0 rfl) (A0 rfl) rfl (by simp only [B6, A6, List.length_drop]; omega) ?_
  intro v28_1
  refine B5 rfl rfl rfl rfl rfl ?_
  refine A4 (A3 ?_)
  refine AWP.le (Y6 [0] 6 rfl rfl (M2 (G2 (i := 0) rfl) I7) R7) ?_
  refine S0 _ [(1, false), (2, false), (3, false), (5, false), (6, false), (8, false), (0, true), (4, true), (7, true), (9, true)] (by kernel_rfl) (by kernel_rfl) rfl p6 ?_
  refine F9 rfl rfl rfl (fun ext => C6 rfl (A0 rfl)) ?_
  refine F9 rfl rfl rfl (fun ext => C6 rfl (A0 rfl)) ?_
  refine F9 rfl rfl rfl (fun ext => AD0 rfl E6 G7 (A0 rfl) (A0 rfl) (by omega) (by first | omega | (simp only [A6]; omega))) ?_
  refine F9 rfl rfl rfl (fun ext => F8 0 rfl (A0 rfl) rfl T4 G7 rfl) ?_
  refine F9 rfl rfl rfl (fun ext => M8 rfl E6 G7 Tryz.zeroValue39 rfl rfl rfl rfl (D7 (A0 rfl) (E9 _) H6) rfl rfl) ?_
  refine F9 rfl rfl rfl (fun ext => C6 rfl (A0 rfl)) ?_
  refine T5 rfl rfl rfl (g8 rfl E6 G7) (fun a _ => (by first | exact G1 rfl | exact G1 (List.append_assoc _ _ _) | exact J1)) ?_
  intro v29 _
  refine T5 rfl rfl rfl (Q1 (by' := 24) 1 rfl E6 Tryz.type39 rfl rfl rfl rfl rfl rfl (A0 rfl) (A0 rfl) rfl (by simp only [B6, List.nil_append, H9, A8, List.length_drop, B2, A6, A9]; omega)) (fun a _ => (by first | exact G1 rfl | exact G1 (List.append_assoc _ _ _) | exact J1)) ?_
  intro v33_2 _
  refine T5 rfl rfl rfl (Q1 (by' := 24) 1 rfl E6 Tryz.type39 rfl rfl rfl rfl rfl rfl (A0 rfl) (A0 rfl) rfl (by simp only [B6, List.nil_append, H9, A8, List.length_drop, B2, A6, A9]; omega)) (fun a _ => (by first | exact G1 rfl | exact G1 (List.append_assoc _ _ _) | exact J1)) ?_
  intro v36_3 _
  refine T5 rfl rfl rfl (Q1 (by' := 24) 1 rfl E6 Tryz.type39 rfl rfl rfl rfl rfl rfl (A0 rfl) (A0 rfl) rfl (by simp only [B6, List.nil_append, H9, A8, List.length_drop, B2, A6, A9]; omega)) (fun a _ => (by first | exact G1 rfl | exact G1 (List.append_assoc _ _ _) | exact J1)) ?_
  intro v38_4 _
  refine j4 ?_
  refine B5 rfl rfl rfl rfl rfl ?_
  refine A4 ?_
  refine C7 ?_
  exact J6 [1] v38_4 (trivial) rfl (by first | rfl | exact congrArg (fun z => [Own.arr _ 39 3 z]) (put_csT _ _ _)) (N2 rfl (C3 rfl (by rfl)))
theorem Ao4 (l : List TCell) (w : List TWrite) (t : Int) (ho : CellsOk l) (hs : sizeL TCell.size l ≤ 1048576) (hw : sizeL TWrite.size w ≤ 1048576) (ht1 : 1 ≤ t) : FSpec Tryz.prog 205 [AV.list 2 (l.map TCell.cs), AV.list 3 (w.map TWrite.cs), AV.int t] (AV.tup [AV.list 2 ((putP l w t).1.map TCell.cs), AV.bool (putP l w t).2]) :=
  V0 (Ax4 l w t ho hs hw ht1) fun x h => AU9 (G3 (i7 TCell.lcM h 0 rfl fun o ho => List.mem_cons_of_mem _ ho) (G3 J5 S1))
theorem Al8 (l : List Str) (hl : l.length ≤ 4194304) : FSpec Tryz.prog 169 [strs l] (strs l) :=
  V0 (AA5 l hl) fun x _ => M2 (List.mem_singleton.2 rfl) I7
theorem Al9 (a b : Int) : FSpec Tryz.prog 130 [AV.int a, AV.int b] (AV.int (if a < b then b else a)) := by
 refine E7 Tryz.func130 rfl Tryz.ntmps130 rfl ?_
 refine A3 (A2 ?_)
 refine A1 rfl rfl rfl (C0 rfl C2) ?_
 refine A4 (A3 (A3 (A2 ?_)))
 refine A5 rfl rfl rfl rfl rfl ?_
 refine A5 rfl rfl rfl rfl rfl ?_
 refine A1 rfl rfl rfl (P1 rfl (A0 rfl) (A0 rfl)) ?_
 refine A4 ?_
 refine C8 (A0 rfl) ?_ ?_
 ·intro h7
  have k7 := of_decide_eq_true h7; try simp only [A6] at k7
  have h9 := of_decide_eq_true h7
  refine A3 (A2 ?_)
  refine A5 rfl rfl rfl rfl rfl ?_
  refine B5 rfl rfl rfl rfl rfl ?_
  refine A4 ?_
  refine C7 ?_
  exact I2 rfl (C3 rfl (by exact congrArg AV.int (by split <;> omega)))
 ·intro h7
  have k7 := of_decide_eq_false h7; try simp only [A6] at k7
  have h9 := of_decide_eq_false h7
  refine D2 (A3 (A2 ?_))
  refine A5 rfl rfl rfl rfl rfl ?_
  refine B5 rfl rfl rfl rfl rfl ?_
  refine A4 ?_
  refine C7 ?_
  exact I2 rfl (C3 rfl (by exact congrArg AV.int (by split <;> omega)))
end Go.Proofs.YtnlhbdkcgaeimaaGreat

set_option linter.unusedVariables false
set_option linter.unusedSimpArgs false
set_option maxRecDepth 100000
set_option maxHeartbeats 1000000
namespace Go.M
open Go.AV
theorem Aa2 (s : TState) (r : TRec) (h : goodState s = true ∧ goodRec r = true) : applyRecR s r = if (applyS s r).2 = true then ((applyS s r).1, true) else (zState, false) := by
  unfold applyRecR; rw [if_pos h]; rfl
end Go.M
namespace Go.Proofs.YtnlhbdkcgaeimaaGreat
open Go Go.AV Go.M
attribute [local irreducible] OpW OpA OpS AWP FSpec ESpec GSpec OpE RetOk RetOkG RvDen Le Ev GuardIs SrcIs Int.tmod Int.tdiv IntKind.wrap
theorem AX5 (s : TState) (rs : List Str) (ws : List TWrite) (hs : s.size ≤ 400000) (hw : sizeL (fun x : Str => x.length) rs + sizeL TWrite.size ws ≤ 400000) : FSpec Tryz.prog 39 [AV.agg s.cs, strs rs, AV.list 3 (ws.map TWrite.cs)] (AV.tup [AV.bool (fitsR s rs ws).1, AV.bool (fitsR s rs ws).2]) := by
 refine E7 Tryz.func39 rfl Tryz.ntmps39 rfl ?_
 refine A3 (A2 ?_)
 refine L9 rfl rfl rfl rfl (A0 rfl) ?_
 intro b3
 refine A1 rfl rfl rfl (C0 rfl F3) ?_
 refine A1 rfl rfl rfl (C0 rfl F3) ?_
 refine A4 (A3 (A3 (A2 ?_)))
 refine A1 rfl rfl rfl (F8 0 rfl (A0 rfl) rfl D8 C5 rfl) ?_
 refine A1 rfl rfl rfl (E5 rfl Tryz.call102 rfl (AD7 _ (by first | assumption | omega)) (A7 (A0 rfl) C9)) ?_
 refine A1 rfl rfl rfl (J7 rfl (A0 rfl)) ?_
 refine A5 rfl rfl rfl rfl rfl ?_
 refine B1 rfl rfl (D4 rfl rfl rfl) (fun hc => C6 rfl (A0 rfl)) ?_
 refine B1 rfl rfl (D4 rfl rfl rfl) (fun hc => C6 rfl (A0 rfl)) ?_
 refine B1 rfl rfl (D4 rfl rfl rfl) (fun hc => M7 (places := #[(0, 1), (1, 1), (2, 1), (3, 1), (4, 1), (5, 1), (6, 1)]) rfl B8 Tryz.zeroValue49 (fun w => by kernel_rfl) rfl (D7 C2 (K6 _ _) (D7 C2 (K6 _ _) (D7 C2 (K6 _ _) (D7 (B0 rfl hc) (T0 _ _) (D7 (B0 rfl hc) (T0 _ _) H6))))) rfl) ?_
 refine B1 rfl rfl (D4 rfl rfl rfl) (fun hc => E5 rfl Tryz.call85 rfl (AQ9 ⟨1, 1, 1, 0, rs, ws, false⟩ (show sizeL (fun x : Str => x.length) rs + sizeL TWrite.size ws ≤ 1048576 by omega)) (A7 (B0 rfl hc) C9)) ?_
 refine B1 rfl rfl (D4 rfl rfl rfl) (fun hc => J7 rfl (B0 rfl hc)) ?_
 refine A1 rfl rfl rfl (P5 rfl (A0 rfl) (G0 rfl)) ?_
 refine A4 ?_
 refine C8 (A0 rfl) ?_ ?_
 ·intro h17
  have he : fitsR s rs ws = (false, false) := by (unfold fitsR; rw [if_neg (by intro h; rw [Bool.and_eq_true] at h; rw [h.1, ← AH4, h.2] at h17; cases h17)])
  rw [he]
  refine A3 (A2 ?_)
  refine A1 rfl rfl rfl (C0 rfl F3) ?_
  refine A1 rfl rfl rfl (C0 rfl F3) ?_
  refine A4 ?_
  refine C7 ?_
  exact U3 rfl (by decide) (E4 (C3 rfl (by rfl)) (E4 (C3 rfl (by rfl)) J0))
 ·intro h17
  have hgd : goodState s = true ∧ l4Good ⟨1, 1, 1, 0, rs, ws, false⟩ = true := by simpa using h17
  obtain ⟨q1, q2⟩ := hgd
  have he : fitsR s rs ws = (fits s rs ws, true) := by (unfold fitsR; rw [q1, AH4, q2]; rfl)
  rw [he]
  refine D2 (A3 (A2 ?_))
  refine A1 rfl rfl rfl (F8 0 rfl (A0 rfl) rfl D8 C5 rfl) ?_
  refine A5 rfl rfl rfl rfl rfl ?_
  refine A5 rfl rfl rfl rfl rfl ?_
  refine A1 rfl rfl rfl (E5 rfl Tryz.call126 rfl (AX4 s rs ws (by omega) (by omega)) (A7 (A0 rfl) (A7 (A0 rfl) (A7 (A0 rfl) C9)))) ?_
  refine B5 rfl rfl rfl rfl rfl ?_
  refine A1 rfl rfl rfl (C0 rfl F3) ?_
  refine A4 ?_
  refine C7 ?_
  exact U3 rfl (by decide) (E4 (C3 rfl (by rfl)) (E4 (C3 rfl (by rfl)) J0))
end Go.Proofs.YtnlhbdkcgaeimaaGreat

set_option linter.unusedVariables false
set_option linter.unusedSimpArgs false
set_option maxRecDepth 100000
set_option maxHeartbeats 1000000
namespace Go.Proofs.YtnlhbdkcgaeimaaGreat
open Go Go.AV Go.M
attribute [local irreducible] OpW OpA OpS AWP FSpec ESpec GSpec OpE RetOk RetOkG RvDen Le Ev GuardIs SrcIs Int.tmod IntKind.wrap bandI
theorem Au2 (b : Nat) (code : List Int) (hcode : ByteL code) (c : TCur) (hp : c.p ≤ 6000000) : GSpec Tryz.prog 291 [AV.ptr b 0] [.box b 127 (curC code c)] (fun x : TCur × Str => x.1.p ≤ c.p + 2 ∧ x.2.length ≤ 64) (fun x => [.box b 127 (curC code x.1)]) (fun x => AV.str x.2) := by
 refine H7 Tryz.func291 rfl Tryz.ntmps291 rfl ?_
 refine A3 (A2 ?_)
 refine A1 rfl rfl rfl (C0 rfl (P0 (l := []) rfl)) ?_
 refine A4 (A3 (A2 ?_))
 refine A5 rfl rfl rfl rfl rfl ?_
 refine A1 rfl rfl rfl (M8 rfl E3 E8 Tryz.zeroValue9 rfl rfl rfl rfl (D7 (P0 (l := []) rfl) (O0 _) (D7 (P0 (l := [49]) rfl) (O0 _) (D7 (P0 (l := [55]) rfl) (O0 _) (D7 (P0 (l := [49, 48]) rfl) (O0 _) (D7 (P0 (l := [45, 51]) rfl) (O0 _) (D7 (P0 (l := [120]) rfl) (O0 _) (D7 (P0 (l := [97, 44, 98, 95, 99]) rfl) (O0 _) H6))))))) rfl rfl) ?_
 refine I0 [0] rfl rfl rfl rfl Tryz.call151 rfl (AD5 _ _ hcode _ ([[], [49], [55], [49, 48], [45, 51], [120], [97, 44, 98, 95, 99]] : List Str) (by decide) (by omega)) (A7 (A0 rfl) (A7 (A0 rfl) C9)) rfl ?_
 intro x5 ok5
 refine B5 rfl rfl rfl rfl rfl ?_
 refine A4 ?_
 refine C7 ?_
 (refine J6 [0] ((_, _)) ?_ rfl (by first | (dsimp only; rfl) | rfl) (N2 rfl (C3 rfl (by rfl))); exact ok5)
theorem Am0 (b : Nat) (code : List Int) (hcode : ByteL code) (c : TCur) (key : Str) (hp : c.p ≤ 5000000) : GSpec Tryz.prog 269 [AV.ptr b 0, AV.str key] [.box b 127 (curC code c)] (fun x : TCur × TWrite => x.1.p ≤ c.p + 4 ∧ x.2.Key = key ∧ x.2.Val.length ≤ 64) (fun x => [.box b 127 (curC code x.1)]) (fun x => AV.agg x.2.cs) := by
 refine H7 Tryz.func269 rfl Tryz.ntmps269 rfl ?_
 refine A3 (A2 ?_)
 refine G5 rfl rfl rfl rfl Tryz.zeroValue77 rfl ?_
 intro b4
 refine A4 (A3 (A3 (A2 ?_)))
 refine A5 rfl rfl rfl rfl rfl ?_
 refine I0 [1] rfl rfl rfl rfl Tryz.call79 rfl (AI6 _ _ hcode _ _ (by omega) (by omega)) (A7 (A0 rfl) (A7 C2 C9)) rfl ?_
 intro x6 ok6
 refine A4 ?_
 refine C8 (A0 rfl) ?_ ?_
 ·intro h6
  refine A3 (A2 ?_)
  refine A5 rfl rfl rfl rfl rfl ?_
  refine A1 rfl rfl rfl (M7 (places := #[(0, 1), (1, 1), (2, 1)]) rfl G8 Tryz.zeroValue77 (fun w => by kernel_rfl) rfl (D7 (A0 rfl) (O0 _) (D7 F3 (Y2 _) H6)) rfl) ?_
  refine D9 1 rfl rfl rfl (A0 rfl) (A0 rfl) (E9 _) rfl H4 rfl ?_
  refine A4 ?_
  refine C7 ?_
  (refine J6 [0] ((_, ⟨_, _, _⟩)) ?_ rfl (by first | (dsimp only; rfl) | rfl) (N2 rfl (J9 (ys := _) 1 rfl rfl S5 H4 rfl)); (dsimp only; first | exact ⟨by omega, rfl, by simp⟩ | exact ⟨by omega, rfl, ok11.2⟩))
 ·intro h6
  refine D2 (A3 (A2 ?_))
  refine A5 rfl rfl rfl rfl rfl ?_
  refine A5 rfl rfl rfl rfl rfl ?_
  refine I0 [0] rfl rfl rfl rfl Tryz.call291 rfl (Au2 _ _ hcode _ (by omega)) (A7 (A0 rfl) C9) rfl ?_
  intro x11 ok11
  refine A1 rfl rfl rfl (M7 (places := #[(0, 1), (1, 1), (2, 1)]) rfl G8 Tryz.zeroValue77 (fun w => by kernel_rfl) rfl (D7 (A0 rfl) (O0 _) (D7 (A0 rfl) (O0 _) H6)) rfl) ?_
  refine D9 1 rfl rfl rfl (A0 rfl) (A0 rfl) (E9 _) rfl H4 rfl ?_
  refine A4 ?_
  refine C7 ?_
  (refine J6 [0] ((_, ⟨_, _, _⟩)) ?_ rfl (by first | (dsimp only; rfl) | rfl) (N2 rfl (J9 (ys := _) 1 rfl rfl S5 H4 rfl)); (dsimp only; first | exact ⟨by omega, rfl, by simp⟩ | exact ⟨by omega, rfl, ok11.2⟩))
def keysD : List Str := [[97], [98], [99], [105, 47, 120, 47, 49], [109], [110], [114, 47, 49], [122]]
theorem Ay0 {s : Str} {i : Nat} (h : keysD[i]? = some s) : s.length ≤ 5 := by
  have : ∀ s ∈ keysD, s.length ≤ 5 := by decide
  exact this s (G2 h)
theorem AK1 (b : Nat) (code : List Int) (hcode : ByteL code) (c : TCur) (hp : c.p ≤ 3000000) : GSpec Tryz.prog 219 [AV.ptr b 0] [.box b 127 (curC code c)] (fun x : TCur × List TWrite × Value => x.1.p ≤ c.p + 48 ∧ sizeL TWrite.size x.2.1 ≤ 560) (fun x => [.box b 127 (curC code x.1), .arr x.2.2 77 3 (x.2.1.map TWrite.cs)]) (fun x => AV.is x.2.2) := by
 refine H7 Tryz.func219 rfl Tryz.ntmps219 rfl ?_
 refine A3 (A2 ?_)
 refine A1 rfl rfl rfl (C0 rfl K1) ?_
 refine A4 (A3 (A2 ?_))
 refine P9 77 3 rfl rfl rfl rfl K1 ?_
 intro v3
 refine A4 (A3 (A3 (A2 ?_)))
 refine A1 rfl rfl rfl (M8 rfl E3 E8 Tryz.zeroValue9 rfl rfl rfl rfl (D7 (P0 (l := [97]) rfl) (O0 _) (D7 (P0 (l := [98]) rfl) (O0 _) (D7 (P0 (l := [99]) rfl) (O0 _) (D7 (P0 (l := [105, 47, 120, 47, 49]) rfl) (O0 _) (D7 (P0 (l := [109]) rfl) (O0 _) (D7 (P0 (l := [110]) rfl) (O0 _) (D7 (P0 (l := [114, 47, 49]) rfl) (O0 _) (D7 (P0 (l := [122]) rfl) (O0 _) H6)))))))) rfl rfl) ?_
 refine A1 rfl rfl rfl (I5 rfl E3 (A0 rfl)) ?_
 refine A1 rfl rfl rfl (C6 rfl C2) ?_
 refine A4 (E1 ?_)
 refine AWP.le (J2 [1, 0] rfl) ?_
 refine j6 [(0, _), (2, _), (6, _), (7, _)] _ (fun (i : Nat) (cc : TCur) (l : List TWrite) (v : Value) => i ≤ 8 ∧ cc.p ≤ c.p + 6 * i ∧ sizeL TWrite.size l ≤ 70 * i) (fun (i : Nat) (cc : TCur) (l : List TWrite) (v : Value) => [.box b 127 (curC code cc), .arr v 77 3 (l.map TWrite.cs)]) (fun (i : Nat) (cc : TCur) (l : List TWrite) (v : Value) => [(3, AV.is v), (8, AV.int i)]) (fun (i : Nat) (cc : TCur) (l : List TWrite) (v : Value) => 8 - i) (0) (c) ([]) (v3) ?_ (S9 (by rfl) ⟨rfl, rfl, rfl, rfl, rfl, rfl, trivial⟩) ?_
 ·exact ⟨by omega, by omega, by simp [sizeL]⟩
 intro i cc l v hinv
 refine A3 (A2 ?_)
 refine A1 rfl rfl rfl (L4 rfl (A0 rfl) (A0 rfl)) ?_
 refine A4 (A3 ?_)
 refine C8 (A0 rfl) ?_ ?_
 ·intro h9
  have k9 := of_decide_eq_true h9; try simp only [A6] at k9
  have hlt : i < 8 := by simp only [A9] at k9; omega
  obtain ⟨y, hy⟩ := get_some (show i < keysD.length from hlt)
  have hyl := Ay0 hy
  have hyy : (keysD.map fun s => [AV.str s])[i]? = some [AV.str y] := by rw [List.getElem?_map, hy]; rfl
  have hll : l.length ≤ 560 := by have := O1 (f := TWrite.size) (l := l); omega
  refine D2 (A3 (E1 (A3 (A2 ?_))))
  refine A1 rfl rfl rfl (AC9 rfl E3 E8 (A0 rfl) (A0 rfl) (by omega) (by rw [Int.toNat_natCast]; exact hyy)) ?_
  refine A1 rfl rfl rfl (O8 rfl (A0 rfl) H2 rfl) ?_
  refine B5 rfl rfl rfl rfl rfl ?_
  refine A4 (A3 (A2 ?_))
  refine A5 rfl rfl rfl rfl rfl ?_
  refine I0 [0] rfl rfl rfl rfl Tryz.call79 rfl (AI6 _ _ hcode _ _ (by omega) (by omega)) (A7 (A0 rfl) (A7 C2 C9)) rfl ?_
  intro x13 ok13
  refine A4 ?_
  refine C8 (A0 rfl) ?_ ?_
  ·intro h13
   refine A2 ?_
   refine A5 rfl rfl rfl rfl rfl ?_
   refine A5 rfl rfl rfl rfl rfl ?_
   refine A5 rfl rfl rfl rfl rfl ?_
   refine I0 [0] rfl rfl rfl rfl Tryz.call269 rfl (Am0 _ _ hcode _ _ (by omega)) (A7 (A0 rfl) (A7 (A0 rfl) C9)) rfl ?_
   intro x17 ok17
   refine A1 rfl rfl rfl (M8 rfl F7 H4 Tryz.zeroValue77 rfl rfl rfl rfl (D7 (A0 rfl) (E9 _) H6) rfl rfl) ?_
   refine M6 (by' := 40) 1 rfl rfl rfl rfl F7 Tryz.type77 rfl rfl rfl rfl rfl rfl (A0 rfl) (A0 rfl) rfl (by first | omega | (simp only [A6, A8, B2, B6, A9, szR] at *; omega)) ?_
   intro v19_1
   refine B5 rfl rfl rfl rfl rfl ?_
   refine A4 (A2 ?_)
   refine A1 rfl rfl rfl (H0 rfl (A0 rfl) C2 (by first | omega | (simp only [A6, A8, B2, B6, A9, szR] at *; omega))) ?_
   refine A5 rfl rfl rfl rfl rfl ?_
   refine A4 ?_
   refine V6 i cc l v (i + 1) (x17.1) (l ++ [x17.2]) (v19_1) ?_ ?_ (Le.trans (J2 [0, 0] rfl) (S9 (by first | rfl | (rw [List.map_append]; rfl)) ⟨rfl, rfl, rfl, rfl, rfl, rfl, trivial⟩))
   ·exact ⟨by omega, by omega, by (have h9 : x17.2.size ≤ 69 := by unfold TWrite.size; rw [ok17.2.1]; omega); rw [show sizeL TWrite.size (l ++ [x17.2]) = sizeL TWrite.size l + x17.2.size + 1 from by unfold sizeL; simp; omega]; omega⟩
   ·omega
  ·intro h13
   refine D2 (A2 ?_)
   refine A1 rfl rfl rfl (H0 rfl (A0 rfl) C2 (by first | omega | (simp only [A6, A8, B2, B6, A9, szR] at *; omega))) ?_
   refine A5 rfl rfl rfl rfl rfl ?_
   refine A4 ?_
   refine V6 i cc l v (i + 1) (x13.1) (l) (v) ?_ ?_ (Le.trans (J2 [0, 0] rfl) (S9 (by first | rfl | (rw [List.map_append]; rfl)) ⟨rfl, rfl, rfl, rfl, rfl, rfl, trivial⟩))
   ·exact ⟨by omega, by omega, by omega⟩
   ·omega
 ·intro h9
  have k9 := of_decide_eq_false h9; try simp only [A6] at k9
  refine I1 ?_
  refine A3 (A2 ?_)
  refine A5 rfl rfl rfl rfl rfl ?_
  refine B5 rfl rfl rfl rfl rfl ?_
  refine A4 ?_
  refine C7 ?_
  (refine J6 [0, 0] ((cc, l, v)) ?_ rfl (by first | (dsimp only; rfl) | rfl) (N2 rfl (C3 rfl (by rfl))); exact ⟨show cc.p ≤ _ by omega, show sizeL TWrite.size l ≤ _ by omega⟩)
end Go.Proofs.YtnlhbdkcgaeimaaGreat

set_option linter.unusedVariables false
set_option linter.unusedSimpArgs false
set_option maxRecDepth 100000
set_option maxHeartbeats 2000000
namespace Go.M
open Go.AV
theorem AN5 (s : Str) : ∀ l : List Str, sizeL (fun x : Str => x.length) (putS l s) ≤ sizeL (fun x : Str => x.length) l + s.length + 1
  | [] => by unfold putS sizeL; simp; omega
  | y :: l => by
    have ih := AN5 s l
    have hc : ∀ (z : Str) (q : List Str), sizeL (fun x : Str => x.length) (z :: q) = sizeL (fun x : Str => x.length) q + z.length + 1 := fun z q => by unfold sizeL; simp; omega
    unfold putS
    split
    · rw [hc s]; omega
    · split
      · omega
      · rw [hc, hc]; omega
end Go.M
namespace Go.Proofs.YtnlhbdkcgaeimaaGreat
open Go Go.AV Go.M
attribute [local irreducible] OpW OpA OpS AWP FSpec ESpec GSpec OpE RetOk RetOkG RvDen Le Ev GuardIs SrcIs Int.tmod Int.tdiv IntKind.wrap bandI
theorem AR6 (a b : Int) : FSpec Tryz.prog 130 [AV.int a, AV.int b] (AV.int (if b < a then a else b)) := by
 refine E7 Tryz.func130 rfl Tryz.ntmps130 rfl ?_
 refine A3 (A2 ?_)
 refine A1 rfl rfl rfl (C0 rfl C2) ?_
 refine A4 (A3 (A3 (A2 ?_)))
 refine A5 rfl rfl rfl rfl rfl ?_
 refine A5 rfl rfl rfl rfl rfl ?_
 refine A1 rfl rfl rfl (P1 rfl (A0 rfl) (A0 rfl)) ?_
 refine A4 ?_
 refine C8 (A0 rfl) ?_ ?_
 ·intro h7
  have k7 := of_decide_eq_true h7; try simp only [A6] at k7
  rw [if_pos (of_decide_eq_true h7)]
  refine A3 (A2 ?_)
  refine A5 rfl rfl rfl rfl rfl ?_
  refine B5 rfl rfl rfl rfl rfl ?_
  refine A4 ?_
  refine C7 ?_
  exact I2 rfl (C3 rfl (by rfl))
 ·intro h7
  have k7 := of_decide_eq_false h7; try simp only [A6] at k7
  rw [if_neg (of_decide_eq_false h7)]
  refine D2 (A3 (A2 ?_))
  refine A5 rfl rfl rfl rfl rfl ?_
  refine B5 rfl rfl rfl rfl rfl ?_
  refine A4 ?_
  refine C7 ?_
  exact I2 rfl (C3 rfl (by rfl))
theorem Au3 (b : Nat) (code : List Int) (hcode : ByteL code) (c : TCur) (hp : c.p ≤ 2000000) : GSpec Tryz.prog 175 [AV.ptr b 0] [.box b 127 (curC code c)] (fun x : TCur × TRec × Value × Value => x.1.p ≤ c.p + 100 ∧ x.2.1.size ≤ 1000 ∧ 0 ≤ x.2.1.Lead ∧ x.2.1.Lead ≤ 3 ∧ 0 ≤ x.2.1.Time ∧ x.2.1.Time ≤ 100001) (fun x => .box b 127 (curC code x.1) :: TRec.ow x.2.1 x.2.2) (fun x => AV.agg (TRec.ocs x.2.1 x.2.2)) := by
 refine H7 Tryz.func175 rfl Tryz.ntmps175 rfl ?_
 refine A3 (A2 ?_)
 refine G5 rfl rfl rfl rfl Tryz.zeroValue49 rfl ?_
 intro b2
 refine A4 (A3 (A2 ?_))
 refine A5 rfl rfl rfl rfl rfl ?_
 refine I0 [1] rfl rfl rfl rfl Tryz.call100 rfl (S4 _ _ hcode _ _ (by omega) (by omega)) (A7 (A0 rfl) (A7 C2 C9)) rfl ?_
 intro x6 ok6
 refine A1 rfl rfl rfl (H0 rfl C2 (A0 rfl) (by first | omega | (simp only [A6, A8, B2, B6, A9, szR] at *; omega))) ?_
 refine A5 rfl rfl rfl rfl rfl ?_
 refine I0 [0] rfl rfl rfl rfl Tryz.call100 rfl (S4 _ _ hcode _ _ (by omega) (by omega)) (A7 (A0 rfl) (A7 C2 C9)) rfl ?_
 intro x9 ok9
 refine A1 rfl rfl rfl (H0 rfl C2 (A0 rfl) (by first | omega | (simp only [A6, A8, B2, B6, A9, szR] at *; omega))) ?_
 refine A5 rfl rfl rfl rfl rfl ?_
 refine I0 [0] rfl rfl rfl rfl Tryz.call100 rfl (S4 _ _ hcode _ _ (by omega) (by omega)) (A7 (A0 rfl) (A7 C2 C9)) rfl ?_
 intro x12 ok12
 refine A1 rfl rfl rfl (H0 rfl C2 (A0 rfl) (by first | omega | (simp only [A6, A8, B2, B6, A9, szR] at *; omega))) ?_
 refine A1 rfl rfl rfl (M7 (places := #[(0, 1), (1, 1), (2, 1), (3, 1), (4, 1), (5, 1), (6, 1)]) rfl B8 Tryz.zeroValue49 (fun w => by kernel_rfl) rfl (D7 (A0 rfl) (K6 _ _) (D7 (A0 rfl) (K6 _ _) (D7 (A0 rfl) (K6 _ _) H6))) rfl) ?_
 refine G5 rfl rfl rfl rfl Tryz.zeroValue49 rfl ?_
 intro b3
 refine D9 0 rfl rfl rfl (A0 rfl) (A0 rfl) (E9 _) rfl H5 rfl ?_
 refine A4 (A3 (A3 (A2 ?_)))
 refine A1 rfl rfl rfl (B4 0 rfl B8 rfl C1 (A0 rfl) rfl) ?_
 refine A1 rfl rfl rfl (B3 0 rfl (A0 rfl) rfl D1 rfl) ?_
 refine A4 (E1 (A3 (A2 ?_)))
 refine A1 rfl rfl rfl (M0 rfl (A0 rfl) C2) ?_
 refine B5 rfl rfl rfl rfl rfl ?_
 refine A4 ?_
 refine C8 (A0 rfl) ?_ ?_
 ·intro h24
  have k24 := K3 h24; try simp only [A6] at k24
  refine A3 (A2 ?_)
  refine A5 rfl rfl rfl rfl rfl ?_
  refine I0 [1] rfl rfl rfl rfl Tryz.call100 rfl (S4 _ _ hcode _ _ (by omega) (by omega)) (A7 (A0 rfl) (A7 C2 C9)) rfl ?_
  intro x27 ok27
  refine A1 rfl rfl rfl (B4 3 rfl B8 rfl C1 (A0 rfl) rfl) ?_
  refine J4 1 rfl rfl rfl (A0 rfl) (A0 rfl) (K6 _ _) rfl C1 rfl ?_
  refine A4 (A3 (A3 (A2 ?_)))
  refine A5 rfl rfl rfl rfl rfl ?_
  refine I0 [0] rfl rfl rfl rfl Tryz.call100 rfl (S4 _ _ hcode _ _ (by omega) (by omega)) (A7 (A0 rfl) (A7 C2 C9)) rfl ?_
  intro x30 ok30
  refine B5 rfl rfl rfl rfl rfl ?_
  refine A4 (E1 ?_)
  refine d8 9 1 ?_
  refine AWP.le (J2 [2, 1, 0] rfl) ?_
  refine j6 [(0, _), (2, _), (3, _)] _ (fun (n : Int) (cc : TCur) (l : List Str) (v : Value) => (0 ≤ n ∧ n + l.length ≤ 3) ∧ cc.p + 4 * n ≤ c.p + 22 ∧ SrtS l ∧ sizeL (fun x : Str => x.length) l + 70 * n ≤ 210) (fun (n : Int) (cc : TCur) (l : List Str) (v : Value) => [.box b3 49 [AV.int (1 + x6.2), AV.int (1 + x9.2), AV.int (1 + x12.2), AV.int x27.2, AV.is v, AV.nils, AV.bool false], .box b 127 (curC code cc), .arr v 9 1 (l.map fun t => [AV.str t])]) (fun (n : Int) (cc : TCur) (l : List Str) (v : Value) => [(4, AV.int n)]) (fun (n : Int) (cc : TCur) (l : List Str) (v : Value) => n.toNat) (x30.2) (x30.1) ([]) ((Value.slice none 0 0)) ?_ (S9 (by rfl) ⟨rfl, rfl, rfl, rfl, trivial⟩) ?_
  ·exact ⟨⟨by omega, by simp; omega⟩, by omega, List.Pairwise.nil, by simp [sizeL]; omega⟩
  intro n cc l v hinv
  refine A3 (A3 (A2 ?_))
  refine A5 rfl rfl rfl rfl rfl ?_
  refine A1 rfl rfl rfl (P1 rfl (A0 rfl) C2) ?_
  refine A4 ?_
  refine C8 (A0 rfl) ?_ ?_
  ·intro h32
   have k32 := of_decide_eq_true h32; try simp only [A6] at k32
   refine D2 (A3 (E1 ?_))
   refine S0 _ [(0, false), (1, false), (2, false), (3, true), (4, true)] (by kernel_rfl) (by kernel_rfl) rfl (X7 1) ?_
   refine F9 rfl rfl rfl (fun ext => B4 4 rfl B8 rfl M3 (A0 rfl) rfl) ?_
   refine F9 rfl rfl rfl (fun ext => B3 0 rfl (A0 rfl) rfl P3 rfl) ?_
   refine F9 rfl rfl rfl (fun ext => C6 rfl (A0 rfl)) ?_
   refine T5 rfl rfl rfl (d3 [1] rfl Tryz.call116 rfl (AW2 _ _ hcode _ (by omega)) (A7 (A0 rfl) C9) rfl) (fun a _ => (by first | exact G1 rfl | exact G1 (List.append_assoc _ _ _) | exact J1)) ?_
   intro x38 ok38
   refine T5 rfl rfl rfl (d3 [1] rfl Tryz.call122 rfl (AA6 v l x38.2 hinv.2.2.1 (by omega)) (A7 (A0 rfl) (A7 (A0 rfl) C9)) rfl) (fun a _ => (by first | exact G1 rfl | exact G1 (List.append_assoc _ _ _) | exact J1)) ?_
   intro x39 ok39
   refine j4 ?_
   refine A1 rfl rfl rfl (B4 4 rfl B8 rfl M3 (A0 rfl) rfl) ?_
   refine Q8 3 rfl fun one_x39 => ?_
   refine J4 0 rfl rfl rfl (A0 rfl) (A0 rfl) (R5 one_x39) rfl M3 rfl ?_
   refine A4 (A2 ?_)
   refine A5 rfl rfl rfl rfl rfl ?_
   refine A1 rfl rfl rfl (P8 rfl (A0 rfl) C2 (by first | omega | (simp only [A6, A8, B2, B6, A9, szR] at *; omega))) ?_
   refine B5 rfl rfl rfl rfl rfl ?_
   refine A4 ?_
   refine V6 n cc l v (n - 1) (x38.1) (putS l x38.2) (x39) ?_ ?_ (Le.trans (J2 [0, 1, 1] rfl) (S9 (by rfl) ⟨rfl, rfl, rfl, rfl, trivial⟩))
   ·(have h9 := AH6 x38.2 l; have h8 := AN5 x38.2 l; exact ⟨⟨by omega, by omega⟩, by omega, (AH5 hinv.2.2.1).1, by omega⟩)
   ·omega
  ·intro h32
   have k32 := of_decide_eq_false h32; try simp only [A6] at k32
   refine I1 ?_
   refine A3 (A2 ?_)
   refine A5 rfl rfl rfl rfl rfl ?_
   refine I0 [1] rfl rfl rfl rfl Tryz.call219 rfl (AK1 _ _ hcode _ (by omega)) (A7 (A0 rfl) C9) rfl ?_
   intro x42 ok42
   refine A1 rfl rfl rfl (B4 5 rfl B8 rfl K4 (A0 rfl) rfl) ?_
   refine Q8 1 rfl fun one_x42_2_2 => ?_
   refine J4 2 rfl rfl rfl (A0 rfl) (A0 rfl) (R5 one_x42_2_2) rfl K4 rfl ?_
   refine A4 (A3 (A2 ?_))
   refine A1 rfl rfl rfl (B4 4 rfl B8 rfl M3 (A0 rfl) rfl) ?_
   refine A1 rfl rfl rfl (B3 2 rfl (A0 rfl) rfl P3 rfl) ?_
   refine A1 rfl rfl rfl (U1 3 rfl E3 (A0 rfl) rfl) ?_
   refine A1 rfl rfl rfl (B4 5 rfl B8 rfl K4 (A0 rfl) rfl) ?_
   refine A1 rfl rfl rfl (B3 2 rfl (A0 rfl) rfl L7 rfl) ?_
   refine A1 rfl rfl rfl (U1 1 rfl F7 (A0 rfl) rfl) ?_
   refine A1 rfl rfl rfl (H0 rfl (A0 rfl) (A0 rfl) (by simp only [A6]; have h9 := O1 (f := TWrite.size) (l := x42.2.1); omega)) ?_
   refine A1 rfl rfl rfl (M0 rfl (A0 rfl) C2) ?_
   refine A4 ?_
   refine C8 (A0 rfl) ?_ ?_
   ·intro h51
    have k51 := K3 h51; try simp only [A6] at k51
    refine A2 ?_
    refine m6 rfl rfl rfl rfl E3 E8 Tryz.zeroValue9 rfl rfl rfl rfl (D7 (P0 (l := [97]) rfl) (O0 _) H6) rfl rfl ?_
    intro v52
    refine A1 rfl rfl rfl (B4 4 rfl B8 rfl M3 (A0 rfl) rfl) ?_
    refine Q8 0 rfl fun one_v52 => ?_
    refine J4 3 rfl rfl rfl (A0 rfl) (A0 rfl) (R5 one_v52) rfl M3 rfl ?_
    refine A4 (A3 (A2 ?_))
    refine A1 rfl rfl rfl (F8 3 rfl (A0 rfl) rfl N3 H5 rfl) ?_
    refine D9 5 rfl rfl rfl (A0 rfl) (A0 rfl) (E9 _) rfl H5 rfl ?_
    refine A4 ?_
    refine C7 ?_
    (refine J6 [1, 0, 0] ((x42.1, ⟨1 + x6.2, 1 + x9.2, 1 + x12.2, x27.2, [[97]], x42.2.1, false⟩, v52, x42.2.2)) ?_ rfl (by first | (dsimp only; rfl) | rfl) (N2 rfl (J9 (ys := _) 5 rfl rfl N3 H5 rfl)); (dsimp only [TRec.size]; exact ⟨by omega, by first | (simp [sizeL]; done) | (simp only [sizeL, B2, B6, List.map_cons, List.map_nil, List.sum_cons, List.sum_nil] at *; omega) | omega, by omega, by omega, by omega, by omega⟩))
   ·intro h51
    have k51 := K2 h51; try simp only [A6] at k51
    refine D2 (A3 (A2 ?_))
    refine A1 rfl rfl rfl (F8 2 rfl (A0 rfl) rfl N3 H5 rfl) ?_
    refine D9 4 rfl rfl rfl (A0 rfl) (A0 rfl) (E9 _) rfl H5 rfl ?_
    refine A4 ?_
    refine C7 ?_
    (refine J6 [0, 2, 0] ((x42.1, ⟨1 + x6.2, 1 + x9.2, 1 + x12.2, x27.2, l, x42.2.1, false⟩, v, x42.2.2)) ?_ rfl (by first | (dsimp only; rfl) | rfl) (N2 rfl (J9 (ys := _) 4 rfl rfl N3 H5 rfl)); (dsimp only [TRec.size]; exact ⟨by omega, by first | (simp [sizeL]; done) | (simp only [sizeL, B2, B6, List.map_cons, List.map_nil, List.sum_cons, List.sum_nil] at *; omega) | omega, by omega, by omega, by omega, by omega⟩))
 ·intro h24
  have k24 := K2 h24; try simp only [A6] at k24
  refine A3 (A2 ?_)
  refine A1 rfl rfl rfl (M0 rfl (A0 rfl) C2) ?_
  refine B5 rfl rfl rfl rfl rfl ?_
  refine A4 ?_
  refine C8 (A0 rfl) ?_ ?_
  ·intro h54
   have k54 := K3 h54; try simp only [A6] at k54
   refine A2 ?_
   refine A1 rfl rfl rfl (B4 1 rfl B8 rfl C1 (A0 rfl) rfl) ?_
   refine J4 0 rfl rfl rfl (A0 rfl) C2 (K6 _ _) rfl C1 rfl ?_
   refine A4 (A3 (A2 ?_))
   refine A1 rfl rfl rfl (F8 0 rfl (A0 rfl) rfl N3 H5 rfl) ?_
   refine D9 2 rfl rfl rfl (A0 rfl) (A0 rfl) (E9 _) rfl H5 rfl ?_
   refine A4 ?_
   refine C7 ?_
   refine T7 9 1 ?_
   refine T7 77 3 ?_
   (refine J6 [3, 1, 0] ((x12.1, ⟨1 + x6.2, 0, 1 + x12.2, 0, [], [], false⟩, Value.slice none 0 0, Value.slice none 0 0)) ?_ rfl (by first | (dsimp only; rfl) | rfl) (N2 rfl (J9 (ys := _) 4 rfl rfl N3 H5 rfl)); (dsimp only [TRec.size]; exact ⟨by omega, by first | (simp [sizeL]; done) | (simp only [sizeL, B2, B6, List.map_cons, List.map_nil, List.sum_cons, List.sum_nil] at *; omega) | omega, by omega, by omega, by omega, by omega⟩))
  ·intro h54
   have k54 := K2 h54; try simp only [A6] at k54
   refine A3 (A2 ?_)
   refine A5 rfl rfl rfl rfl rfl ?_
   refine I0 [1] rfl rfl rfl rfl Tryz.call79 rfl (AI6 _ _ hcode _ _ (by omega) (by omega)) (A7 (A0 rfl) (A7 C2 C9)) rfl ?_
   intro x18 ok18
   refine A1 rfl rfl rfl (B4 6 rfl B8 rfl I8 (A0 rfl) rfl) ?_
   refine J4 1 rfl rfl rfl (A0 rfl) (A0 rfl) (Y2 _) rfl I8 rfl ?_
   refine A4 (A3 (A2 ?_))
   refine A1 rfl rfl rfl (B4 6 rfl B8 rfl I8 (A0 rfl) rfl) ?_
   refine A1 rfl rfl rfl (B3 1 rfl (A0 rfl) rfl L2 rfl) ?_
   refine A1 rfl rfl rfl (J7 rfl (A0 rfl)) ?_
   refine A4 ?_
   refine C8 (A0 rfl) ?_ ?_
   ·intro h22
    refine A2 ?_
    refine A1 rfl rfl rfl (B4 2 rfl B8 rfl C1 (A0 rfl) rfl) ?_
    refine J4 1 rfl rfl rfl (A0 rfl) C2 (K6 _ _) rfl C1 rfl ?_
    refine A4 (A3 (A2 ?_))
    refine A1 rfl rfl rfl (F8 1 rfl (A0 rfl) rfl N3 H5 rfl) ?_
    refine D9 2 rfl rfl rfl (A0 rfl) (A0 rfl) (E9 _) rfl H5 rfl ?_
    refine A4 ?_
    refine C7 ?_
    refine T7 9 1 ?_
    refine T7 77 3 ?_
    (refine J6 [2, 1, 0] ((x18.1, ⟨1 + x6.2, 1 + x9.2, 0, 0, [], [], x18.2⟩, Value.slice none 0 0, Value.slice none 0 0)) ?_ rfl (by first | (dsimp only; rfl) | rfl) (N2 rfl (J9 (ys := _) 4 rfl rfl N3 H5 rfl)); (dsimp only [TRec.size]; exact ⟨by omega, by first | (simp [sizeL]; done) | (simp only [sizeL, B2, B6, List.map_cons, List.map_nil, List.sum_cons, List.sum_nil] at *; omega) | omega, by omega, by omega, by omega, by omega⟩))
   ·intro h22
    refine D2 (A3 (A2 ?_))
    refine A1 rfl rfl rfl (F8 1 rfl (A0 rfl) rfl N3 H5 rfl) ?_
    refine D9 2 rfl rfl rfl (A0 rfl) (A0 rfl) (E9 _) rfl H5 rfl ?_
    refine A4 ?_
    refine C7 ?_
    refine T7 9 1 ?_
    refine T7 77 3 ?_
    (refine J6 [2, 1, 0] ((x18.1, ⟨1 + x6.2, 1 + x9.2, 1 + x12.2, 0, [], [], x18.2⟩, Value.slice none 0 0, Value.slice none 0 0)) ?_ rfl (by first | (dsimp only; rfl) | rfl) (N2 rfl (J9 (ys := _) 4 rfl rfl N3 H5 rfl)); (dsimp only [TRec.size]; exact ⟨by omega, by first | (simp [sizeL]; done) | (simp only [sizeL, B2, B6, List.map_cons, List.map_nil, List.sum_cons, List.sum_nil] at *; omega) | omega, by omega, by omega, by omega, by omega⟩))
end Go.Proofs.YtnlhbdkcgaeimaaGreat

set_option linter.unusedVariables false
set_option linter.unusedSimpArgs false
set_option maxRecDepth 100000
set_option maxHeartbeats 2000000
namespace Go.Proofs.YtnlhbdkcgaeimaaGreat
open Go Go.AV Go.M
attribute [local irreducible] OpW OpA OpS AWP FSpec ESpec GSpec OpE RetOk RetOkG RvDen Le Ev GuardIs SrcIs SrcE Int.tmod Int.tdiv IntKind.wrap bandI
theorem Ag1 (s : TState) (y : Value × Value) (hs : s.size ≤ 1048576) : GSpec Tryz.prog 107 [AV.agg (TState.ocs s y)] (TState.ow s y) (fun _ : Value × Value => True) (fun x => TState.ow s y ++ TState.ow s x) (fun x => AV.agg (TState.ocs s x)) := by
 obtain ⟨hs1, hs2, hs3, hs4, hs5⟩ := R4 hs
 refine H7 Tryz.func107 rfl Tryz.ntmps107 rfl ?_
 refine A3 (A2 ?_)
 refine L9 rfl rfl rfl rfl (A0 rfl) ?_
 intro b1
 refine G5 rfl rfl rfl rfl Tryz.zeroValue30 rfl ?_
 intro b2
 refine A4 (A3 ?_)
 refine e6 _ 11 (.pure 0 (.pure 1 (.pure 2 (.pure 3 (.pure 4 (.pure 6 (.pure 7 (.e2 5 (.e2 8 (.pure 9 (.e1 10 .nil)) 10 (.e1 8 (.pure 9 .nil))) 10 (.e1 5 (.e1 8 (.pure 9 .nil))))))))))) (by kernel_rfl) (by kernel_rfl) rfl p6 ?_
 refine K7 rfl rfl rfl (fun ext => B4 0 rfl C4 rfl C1 (A0 rfl) rfl) ?_
 refine K7 rfl rfl rfl (fun ext => B3 1 rfl (A0 rfl) rfl D1 rfl) ?_
 refine K7 rfl rfl rfl (fun ext => B4 1 rfl C4 rfl O5 (A0 rfl) rfl) ?_
 refine K7 rfl rfl rfl (fun ext => B3 1 rfl (A0 rfl) rfl Q5 rfl) ?_
 refine K7 rfl rfl rfl (fun ext => E5 rfl Tryz.call208 rfl (Ao2 s.Cells (by omega)) (A7 (A0 rfl) C9)) ?_
 refine K7 rfl rfl rfl (fun ext => B4 3 rfl C4 rfl K5 (A0 rfl) rfl) ?_
 refine K7 rfl rfl rfl (fun ext => B3 1 rfl (A0 rfl) rfl Q0 rfl) ?_
 refine AV3 ?_ ?_
 ·refine V2 rfl rfl rfl (g8 rfl E6 G7) (fun a _ => (by first | exact G1 rfl | exact G1 (List.append_assoc _ _ _) | exact J1)) ?_
  intro v11 _
  refine AV3 ?_ ?_
  ·refine V2 rfl rfl rfl (n1 4 (fun _ => rfl) (AE8 (by' := 24) 4 rfl E6 Tryz.type39 rfl rfl rfl rfl rfl rfl (A0 rfl) (AT2 3 rfl (A0 rfl)) rfl (by simp only [B6, A6]; omega))) (fun a _ => (by first | exact G1 rfl | exact G1 (List.append_assoc _ _ _) | exact J1)) ?_
   intro v14_1 hone_v14_1
   have one_v14_1 := hone_v14_1.2
   refine K7 rfl rfl rfl (fun ext => M7 (places := #[(0, 1), (1, 1), (2, 1), (3, 1)]) rfl C4 Tryz.zeroValue30 (fun w => by kernel_rfl) rfl (D7 (A0 rfl) (K6 _ _) (D7 (A0 rfl) (T0 _ _) (D7 (A0 rfl) (R5 one_v14_1) H6))) rfl) ?_
   refine Z8 ?_
   refine V2 rfl rfl rfl (w8 rfl Tryz.zeroValue30 rfl) (fun a _ => (by first | exact G1 rfl | exact G1 (List.append_assoc _ _ _) | exact J1)) ?_
   intro b3 _
   refine m0 ?_
   refine D9 5 rfl rfl rfl (A0 rfl) (A0 rfl) (E9 _) rfl C5 rfl ?_
   refine A4 (A3 (A3 (A2 ?_)))
   refine A1 rfl rfl rfl (B4 2 rfl C4 rfl G4 (A0 rfl) rfl) ?_
   refine A1 rfl rfl rfl (B3 1 rfl (A0 rfl) rfl J8 rfl) ?_
   refine A1 rfl rfl rfl (U1 2 rfl D0 (A0 rfl) rfl) ?_
   refine A1 rfl rfl rfl (C6 rfl C2) ?_
   refine A4 (E1 ?_)
   refine d8 45 5 ?_
   refine AWP.le (J2 [6, 0] rfl) ?_
   refine T3 [(2, _), (3, _), (17, _), (18, _)] _ (fun (i : Nat) (v : Value) => i ≤ s.Held.length) (fun (i : Nat) (v : Value) => [.box b3 30 [AV.int s.Floor, AV.list 2 (s.Cells.map TCell.cs), AV.is v, AV.is v14_1], .arr v 45 5 ((s.Held.take i).map THeld.cs)]) (fun (i : Nat) (v : Value) => [(19, AV.int i)]) (fun (i : Nat) (v : Value) => s.Held.length - i) (0) ((Value.slice none 0 0)) ?_ (S9 (by rfl) ⟨rfl, rfl, rfl, rfl, rfl, trivial⟩) ?_
   ·exact Nat.zero_le _
   intro i v hinv
   refine A3 (A2 ?_)
   refine A1 rfl rfl rfl (L4 rfl (A0 rfl) (A0 rfl)) ?_
   refine A4 (A3 ?_)
   refine C8 (A0 rfl) ?_ ?_
   ·intro h20
    have k20 := of_decide_eq_true h20; try simp only [A6] at k20
    have hlt : i < s.Held.length := by omega
    obtain ⟨h, hx⟩ := get_some hlt
    obtain ⟨g1, g2, g3, g4, g5⟩ := U7 hs2 hx
    have hrow : (s.Held.map THeld.cs)[((i : Nat) : Int).toNat]? = some h.cs := by (rw [Int.toNat_natCast, List.getElem?_map, hx]; rfl)
    refine D2 (A3 (E1 (A3 (A2 ?_))))
    refine A1 rfl rfl rfl (R9 4 rfl D0 D3 (A0 rfl) rfl (A0 rfl) (by omega) (by first | omega | (simp only [A6]; omega))) ?_
    refine A1 rfl rfl rfl (p5 4 rfl (A0 rfl) rfl H8 D3 hrow (by decide)) ?_
    refine G5 rfl rfl rfl rfl Tryz.zeroValue45 rfl ?_
    intro b5
    refine D9 0 rfl rfl rfl (A0 rfl) (A0 rfl) (E9 _) rfl D3 rfl ?_
    refine A4 ?_
    refine Q7 5 (by kernel_rfl) (by kernel_rfl) rfl ?_
    refine B7 rfl rfl (B4 2 rfl C4 rfl G4 (A0 rfl) rfl) ?_
    refine B7 rfl rfl (B3 1 rfl (A0 rfl) rfl J8 rfl) ?_
    refine B7 rfl rfl (F8 0 rfl (A0 rfl) rfl H8 D3 rfl) ?_
    refine B7 rfl rfl (E5 rfl Tryz.call106 rfl (AC4 _ (by first | assumption | omega)) (A7 (A0 rfl) C9)) ?_
    refine B7 rfl rfl (M8 rfl D0 D3 Tryz.zeroValue45 rfl rfl rfl rfl (D7 (A0 rfl) (E9 _) H6) rfl rfl) ?_
    refine P7 ?_
    refine M6 (by' := 72) 2 rfl rfl rfl rfl D0 Tryz.type45 rfl rfl rfl rfl rfl rfl (A0 rfl) (A0 rfl) rfl (by simp only [A6, A8, A9]; omega) ?_
    intro v28_2
    refine A1 rfl rfl rfl (B4 2 rfl C4 rfl G4 (A0 rfl) rfl) ?_
    refine Q8 2 rfl fun one_v28_2 => ?_
    refine J4 1 rfl rfl rfl (A0 rfl) (A0 rfl) (R5 one_v28_2) rfl G4 rfl ?_
    refine A4 (A2 ?_)
    refine A1 rfl rfl rfl (H0 rfl (A0 rfl) C2 (by first | omega | (simp only [A6, A8, B2, B6, A9, szR] at *; omega))) ?_
    refine A5 rfl rfl rfl rfl rfl ?_
    refine A4 ?_
    refine R6 i v (i + 1) (v28_2) ?_ ?_ (Le.trans (J2 [0, 0, 0] rfl) (N4 1 (by exact congrArg (fun z => Own.box b3 30 [AV.int s.Floor, AV.list 2 (s.Cells.map TCell.cs), AV.is v28_2, AV.is v14_1] :: Own.arr v28_2 45 5 z :: _) (c4 (f := THeld.cs) hx)) ⟨rfl, rfl, rfl, rfl, rfl, trivial⟩))
    ·omega
    ·omega
   ·intro h20
    have k20 := of_decide_eq_false h20; try simp only [A6] at k20
    have hge : i = s.Held.length := by omega
    rw [hge, List.take_length]
    refine I1 ?_
    refine A3 (A2 ?_)
    refine A1 rfl rfl rfl (F8 0 rfl (A0 rfl) rfl D8 C5 rfl) ?_
    refine D9 2 rfl rfl rfl (A0 rfl) (A0 rfl) (E9 _) rfl C5 rfl ?_
    refine A4 ?_
    refine C7 ?_
    exact J6 [4, 4, 1, 3] (v, v14_1) (trivial) rfl (by rfl) (N2 rfl (J9 (ys := _) 2 rfl rfl D8 C5 rfl))
  ·refine V2 rfl rfl rfl (w8 rfl Tryz.zeroValue30 rfl) (fun a _ => (by first | exact G1 rfl | exact G1 (List.append_assoc _ _ _) | exact J1)) ?_
   intro b3 _
   refine Z8 ?_
   refine V2 rfl rfl rfl (n1 4 (fun _ => rfl) (AE8 (by' := 24) 4 rfl E6 Tryz.type39 rfl rfl rfl rfl rfl rfl (A0 rfl) (AT2 3 rfl (A0 rfl)) rfl (by simp only [B6, A6]; omega))) (fun a _ => (by first | exact G1 rfl | exact G1 (List.append_assoc _ _ _) | exact J1)) ?_
   intro v14_3 hone_v14_3
   have one_v14_3 := hone_v14_3.2
   refine K7 rfl rfl rfl (fun ext => M7 (places := #[(0, 1), (1, 1), (2, 1), (3, 1)]) rfl C4 Tryz.zeroValue30 (fun w => by kernel_rfl) rfl (D7 (A0 rfl) (K6 _ _) (D7 (A0 rfl) (T0 _ _) (D7 (A0 rfl) (R5 one_v14_3) H6))) rfl) ?_
   refine m0 ?_
   refine D9 5 rfl rfl rfl (A0 rfl) (A0 rfl) (E9 _) rfl C5 rfl ?_
   refine A4 (A3 (A3 (A2 ?_)))
   refine A1 rfl rfl rfl (B4 2 rfl C4 rfl G4 (A0 rfl) rfl) ?_
   refine A1 rfl rfl rfl (B3 1 rfl (A0 rfl) rfl J8 rfl) ?_
   refine A1 rfl rfl rfl (U1 2 rfl D0 (A0 rfl) rfl) ?_
   refine A1 rfl rfl rfl (C6 rfl C2) ?_
   refine A4 (E1 ?_)
   refine d8 45 5 ?_
   refine AWP.le (J2 [6, 0] rfl) ?_
   refine T3 [(2, _), (3, _), (17, _), (18, _)] _ (fun (i : Nat) (v : Value) => i ≤ s.Held.length) (fun (i : Nat) (v : Value) => [.box b3 30 [AV.int s.Floor, AV.list 2 (s.Cells.map TCell.cs), AV.is v, AV.is v14_3], .arr v 45 5 ((s.Held.take i).map THeld.cs)]) (fun (i : Nat) (v : Value) => [(19, AV.int i)]) (fun (i : Nat) (v : Value) => s.Held.length - i) (0) ((Value.slice none 0 0)) ?_ (S9 (by rfl) ⟨rfl, rfl, rfl, rfl, rfl, trivial⟩) ?_
   ·exact Nat.zero_le _
   intro i v hinv
   refine A3 (A2 ?_)
   refine A1 rfl rfl rfl (L4 rfl (A0 rfl) (A0 rfl)) ?_
   refine A4 (A3 ?_)
   refine C8 (A0 rfl) ?_ ?_
   ·intro h20
    have k20 := of_decide_eq_true h20; try simp only [A6] at k20
    have hlt : i < s.Held.length := by omega
    obtain ⟨h, hx⟩ := get_some hlt
    obtain ⟨g1, g2, g3, g4, g5⟩ := U7 hs2 hx
    have hrow : (s.Held.map THeld.cs)[((i : Nat) : Int).toNat]? = some h.cs := by (rw [Int.toNat_natCast, List.getElem?_map, hx]; rfl)
    refine D2 (A3 (E1 (A3 (A2 ?_))))
    refine A1 rfl rfl rfl (R9 4 rfl D0 D3 (A0 rfl) rfl (A0 rfl) (by omega) (by first | omega | (simp only [A6]; omega))) ?_
    refine A1 rfl rfl rfl (p5 4 rfl (A0 rfl) rfl H8 D3 hrow (by decide)) ?_
    refine G5 rfl rfl rfl rfl Tryz.zeroValue45 rfl ?_
    intro b5
    refine D9 0 rfl rfl rfl (A0 rfl) (A0 rfl) (E9 _) rfl D3 rfl ?_
    refine A4 ?_
    refine Q7 5 (by kernel_rfl) (by kernel_rfl) rfl ?_
    refine B7 rfl rfl (B4 2 rfl C4 rfl G4 (A0 rfl) rfl) ?_
    refine B7 rfl rfl (B3 1 rfl (A0 rfl) rfl J8 rfl) ?_
    refine B7 rfl rfl (F8 0 rfl (A0 rfl) rfl H8 D3 rfl) ?_
    refine B7 rfl rfl (E5 rfl Tryz.call106 rfl (AC4 _ (by first | assumption | omega)) (A7 (A0 rfl) C9)) ?_
    refine B7 rfl rfl (M8 rfl D0 D3 Tryz.zeroValue45 rfl rfl rfl rfl (D7 (A0 rfl) (E9 _) H6) rfl rfl) ?_
    refine P7 ?_
    refine M6 (by' := 72) 2 rfl rfl rfl rfl D0 Tryz.type45 rfl rfl rfl rfl rfl rfl (A0 rfl) (A0 rfl) rfl (by simp only [A6, A8, A9]; omega) ?_
    intro v28_4
    refine A1 rfl rfl rfl (B4 2 rfl C4 rfl G4 (A0 rfl) rfl) ?_
    refine Q8 2 rfl fun one_v28_4 => ?_
    refine J4 1 rfl rfl rfl (A0 rfl) (A0 rfl) (R5 one_v28_4) rfl G4 rfl ?_
    refine A4 (A2 ?_)
    refine A1 rfl rfl rfl (H0 rfl (A0 rfl) C2 (by first | omega | (simp only [A6, A8, B2, B6, A9, szR] at *; omega))) ?_
    refine A5 rfl rfl rfl rfl rfl ?_
    refine A4 ?_
    refine R6 i v (i + 1) (v28_4) ?_ ?_ (Le.trans (J2 [0, 0, 0] rfl) (N4 1 (by exact congrArg (fun z => Own.box b3 30 [AV.int s.Floor, AV.list 2 (s.Cells.map TCell.cs), AV.is v28_4, AV.is v14_3] :: Own.arr v28_4 45 5 z :: _) (c4 (f := THeld.cs) hx)) ⟨rfl, rfl, rfl, rfl, rfl, trivial⟩))
    ·omega
    ·omega
   ·intro h20
    have k20 := of_decide_eq_false h20; try simp only [A6] at k20
    have hge : i = s.Held.length := by omega
    rw [hge, List.take_length]
    refine I1 ?_
    refine A3 (A2 ?_)
    refine A1 rfl rfl rfl (F8 0 rfl (A0 rfl) rfl D8 C5 rfl) ?_
    refine D9 2 rfl rfl rfl (A0 rfl) (A0 rfl) (E9 _) rfl C5 rfl ?_
    refine A4 ?_
    refine C7 ?_
    exact J6 [4, 4, 1, 3] (v, v14_3) (trivial) rfl (by rfl) (N2 rfl (J9 (ys := _) 2 rfl rfl D8 C5 rfl))
 ·refine V2 rfl rfl rfl (w8 rfl Tryz.zeroValue30 rfl) (fun a _ => (by first | exact G1 rfl | exact G1 (List.append_assoc _ _ _) | exact J1)) ?_
  intro b3 _
  refine Z8 ?_
  refine V2 rfl rfl rfl (g8 rfl E6 G7) (fun a _ => (by first | exact G1 rfl | exact G1 (List.append_assoc _ _ _) | exact J1)) ?_
  intro v11 _
  refine Z8 ?_
  refine V2 rfl rfl rfl (n1 5 (fun _ => rfl) (AE8 (by' := 24) 5 rfl E6 Tryz.type39 rfl rfl rfl rfl rfl rfl (A0 rfl) (AT2 3 rfl (A0 rfl)) rfl (by simp only [B6, A6]; omega))) (fun a _ => (by first | exact G1 rfl | exact G1 (List.append_assoc _ _ _) | exact J1)) ?_
  intro v14_5 hone_v14_5
  have one_v14_5 := hone_v14_5.2
  refine K7 rfl rfl rfl (fun ext => M7 (places := #[(0, 1), (1, 1), (2, 1), (3, 1)]) rfl C4 Tryz.zeroValue30 (fun w => by kernel_rfl) rfl (D7 (A0 rfl) (K6 _ _) (D7 (A0 rfl) (T0 _ _) (D7 (A0 rfl) (R5 one_v14_5) H6))) rfl) ?_
  refine m0 ?_
  refine D9 4 rfl rfl rfl (A0 rfl) (A0 rfl) (E9 _) rfl C5 rfl ?_
  refine A4 (A3 (A3 (A2 ?_)))
  refine A1 rfl rfl rfl (B4 2 rfl C4 rfl G4 (A0 rfl) rfl) ?_
  refine A1 rfl rfl rfl (B3 1 rfl (A0 rfl) rfl J8 rfl) ?_
  refine A1 rfl rfl rfl (U1 2 rfl D0 (A0 rfl) rfl) ?_
  refine A1 rfl rfl rfl (C6 rfl C2) ?_
  refine A4 (E1 ?_)
  refine d8 45 5 ?_
  refine AWP.le (J2 [5, 0] rfl) ?_
  refine T3 [(2, _), (3, _), (17, _), (18, _)] _ (fun (i : Nat) (v : Value) => i ≤ s.Held.length) (fun (i : Nat) (v : Value) => [.box b3 30 [AV.int s.Floor, AV.list 2 (s.Cells.map TCell.cs), AV.is v, AV.is v14_5], .arr v 45 5 ((s.Held.take i).map THeld.cs)]) (fun (i : Nat) (v : Value) => [(19, AV.int i)]) (fun (i : Nat) (v : Value) => s.Held.length - i) (0) ((Value.slice none 0 0)) ?_ (S9 (by rfl) ⟨rfl, rfl, rfl, rfl, rfl, trivial⟩) ?_
  ·exact Nat.zero_le _
  intro i v hinv
  refine A3 (A2 ?_)
  refine A1 rfl rfl rfl (L4 rfl (A0 rfl) (A0 rfl)) ?_
  refine A4 (A3 ?_)
  refine C8 (A0 rfl) ?_ ?_
  ·intro h20
   have k20 := of_decide_eq_true h20; try simp only [A6] at k20
   have hlt : i < s.Held.length := by omega
   obtain ⟨h, hx⟩ := get_some hlt
   obtain ⟨g1, g2, g3, g4, g5⟩ := U7 hs2 hx
   have hrow : (s.Held.map THeld.cs)[((i : Nat) : Int).toNat]? = some h.cs := by (rw [Int.toNat_natCast, List.getElem?_map, hx]; rfl)
   refine D2 (A3 (E1 (A3 (A2 ?_))))
   refine A1 rfl rfl rfl (R9 4 rfl D0 D3 (A0 rfl) rfl (A0 rfl) (by omega) (by first | omega | (simp only [A6]; omega))) ?_
   refine A1 rfl rfl rfl (p5 4 rfl (A0 rfl) rfl H8 D3 hrow (by decide)) ?_
   refine G5 rfl rfl rfl rfl Tryz.zeroValue45 rfl ?_
   intro b5
   refine D9 0 rfl rfl rfl (A0 rfl) (A0 rfl) (E9 _) rfl D3 rfl ?_
   refine A4 ?_
   refine Q7 5 (by kernel_rfl) (by kernel_rfl) rfl ?_
   refine B7 rfl rfl (B4 2 rfl C4 rfl G4 (A0 rfl) rfl) ?_
   refine B7 rfl rfl (B3 1 rfl (A0 rfl) rfl J8 rfl) ?_
   refine B7 rfl rfl (F8 0 rfl (A0 rfl) rfl H8 D3 rfl) ?_
   refine B7 rfl rfl (E5 rfl Tryz.call106 rfl (AC4 _ (by first | assumption | omega)) (A7 (A0 rfl) C9)) ?_
   refine B7 rfl rfl (M8 rfl D0 D3 Tryz.zeroValue45 rfl rfl rfl rfl (D7 (A0 rfl) (E9 _) H6) rfl rfl) ?_
   refine P7 ?_
   refine M6 (by' := 72) 2 rfl rfl rfl rfl D0 Tryz.type45 rfl rfl rfl rfl rfl rfl (A0 rfl) (A0 rfl) rfl (by simp only [A6, A8, A9]; omega) ?_
   intro v28_6
   refine A1 rfl rfl rfl (B4 2 rfl C4 rfl G4 (A0 rfl) rfl) ?_
   refine Q8 2 rfl fun one_v28_6 => ?_
   refine J4 1 rfl rfl rfl (A0 rfl) (A0 rfl) (R5 one_v28_6) rfl G4 rfl ?_
   refine A4 (A2 ?_)
   refine A1 rfl rfl rfl (H0 rfl (A0 rfl) C2 (by first | omega | (simp only [A6, A8, B2, B6, A9, szR] at *; omega))) ?_
   refine A5 rfl rfl rfl rfl rfl ?_
   refine A4 ?_
   refine R6 i v (i + 1) (v28_6) ?_ ?_ (Le.trans (J2 [0, 0, 0] rfl) (N4 1 (by exact congrArg (fun z => Own.box b3 30 [AV.int s.Floor, AV.list 2 (s.Cells.map TCell.cs), AV.is v28_6, AV.is v14_5] :: Own.arr v28_6 45 5 z :: _) (c4 (f := THeld.cs) hx)) ⟨rfl, rfl, rfl, rfl, rfl, trivial⟩))
   ·omega
   ·omega
  ·intro h20
   have k20 := of_decide_eq_false h20; try simp only [A6] at k20
   have hge : i = s.Held.length := by omega
   rw [hge, List.take_length]
   refine I1 ?_
   refine A3 (A2 ?_)
   refine A1 rfl rfl rfl (F8 0 rfl (A0 rfl) rfl D8 C5 rfl) ?_
   refine D9 2 rfl rfl rfl (A0 rfl) (A0 rfl) (E9 _) rfl C5 rfl ?_
   refine A4 ?_
   refine C7 ?_
   exact J6 [4, 4, 1, 3] (v, v14_5) (trivial) rfl (by rfl) (N2 rfl (J9 (ys := _) 2 rfl rfl D8 C5 rfl))
theorem Ao5 (s : TState) (y : Value × Value) (n : Int) (hlen : s.Held.length ≤ 1048576) : GSpec Tryz.prog 105 [AV.agg (TState.ocs s y), AV.int n] (TState.ow s y) (fun _ : Unit => True) (fun _ => TState.ow s y) (fun _ => AV.tup [AV.agg (heldFO s.Held n).1.cs, AV.bool (heldFO s.Held n).2]) := by
 obtain ⟨he, hhe⟩ : ∃ he, heldFO s.Held n = he := ⟨_, rfl⟩
 rw [hhe]
 refine H7 Tryz.func105 rfl Tryz.ntmps105 rfl ?_
 refine A3 (A2 ?_)
 refine L9 rfl rfl rfl rfl (A0 rfl) ?_
 intro b2
 refine G5 rfl rfl rfl rfl Tryz.zeroValue45 rfl ?_
 intro b4
 refine A1 rfl rfl rfl (C0 rfl F3) ?_
 refine A4 (A3 (A3 (A2 ?_)))
 refine A1 rfl rfl rfl (B4 2 rfl C4 rfl G4 (A0 rfl) rfl) ?_
 refine A1 rfl rfl rfl (B3 1 rfl (A0 rfl) rfl J8 rfl) ?_
 refine A1 rfl rfl rfl (U1 2 rfl D0 (A0 rfl) rfl) ?_
 refine A1 rfl rfl rfl (C6 rfl C2) ?_
 refine A4 (E1 ?_)
 refine K8 [(1, _), (4, _), (9, _), (10, _)] _ (fun (i : Nat) => i ≤ s.Held.length ∧ ∀ j y, j < i → s.Held[j]? = some y → (y.Txn == n) = false) (fun (i : Nat) => []) (fun (i : Nat) => [(11, AV.int i)]) (fun (i : Nat) => s.Held.length - i) (0) ?_ (L0 ⟨rfl, rfl, rfl, rfl, rfl, trivial⟩) ?_
 ·exact ⟨Nat.zero_le _, fun j y hj => by omega⟩
 intro i hinv
 refine A3 (A2 ?_)
 refine A1 rfl rfl rfl (L4 rfl (A0 rfl) (A0 rfl)) ?_
 refine A4 (A3 ?_)
 refine C8 (A0 rfl) ?_ ?_
 ·intro h12
  have k12 := of_decide_eq_true h12; try simp only [A6] at k12
  have hlt : i < s.Held.length := by omega
  obtain ⟨x, hx⟩ := get_some hlt
  have hrow : (s.Held.map THeld.cs)[((i : Nat) : Int).toNat]? = some x.cs := by (rw [Int.toNat_natCast, List.getElem?_map, hx]; rfl)
  refine D2 (A3 (E1 (A3 (A2 ?_))))
  refine A1 rfl rfl rfl (R9 2 rfl D0 D3 (A0 rfl) rfl (A0 rfl) (by omega) (by first | omega | (simp only [A6]; omega))) ?_
  refine A1 rfl rfl rfl (p5 2 rfl (A0 rfl) rfl H8 D3 hrow (by decide)) ?_
  refine G5 rfl rfl rfl rfl Tryz.zeroValue45 rfl ?_
  intro b7
  refine D9 0 rfl rfl rfl (A0 rfl) (A0 rfl) (E9 _) rfl D3 rfl ?_
  refine A4 (A3 (A2 ?_))
  refine A1 rfl rfl rfl (B4 0 rfl F1 rfl C1 (A0 rfl) rfl) ?_
  refine A1 rfl rfl rfl (B3 0 rfl (A0 rfl) rfl D1 rfl) ?_
  refine A5 rfl rfl rfl rfl rfl ?_
  refine A1 rfl rfl rfl (M0 rfl (A0 rfl) (A0 rfl)) ?_
  refine A4 ?_
  refine C8 (A0 rfl) ?_ ?_
  ·intro h18
   have k18 := K3 h18; try simp only [A6] at k18
   have he9 : he = (x, true) := by (rw [← hhe]; unfold heldFO findH; rw [AA8 hx h18 hinv.2])
   rw [he9]
   refine A3 (A2 ?_)
   refine A1 rfl rfl rfl (F8 0 rfl (A0 rfl) rfl H8 D3 rfl) ?_
   refine D9 1 rfl rfl rfl (A0 rfl) (A0 rfl) (E9 _) rfl D3 rfl ?_
   refine A1 rfl rfl rfl (C0 rfl F3) ?_
   refine A4 ?_
   refine C7 ?_
   exact J6 [3, 3] () (trivial) rfl (by rfl) (S8 rfl (by decide) (E4 (J9 (ys := _) 1 rfl rfl H8 D3 rfl) (E4 (C3 rfl (by rfl)) J0)))
  ·intro h18
   have k18 := K2 h18; try simp only [A6] at k18
   refine D2 (A2 ?_)
   refine A1 rfl rfl rfl (H0 rfl (A0 rfl) C2 (by first | omega | (simp only [A6, A8, B2, B6, A9, szR] at *; omega))) ?_
   refine A5 rfl rfl rfl rfl rfl ?_
   refine A4 ?_
   refine N0 i (i + 1) ?_ ?_ (U4 1 ⟨rfl, rfl, rfl, rfl, rfl, trivial⟩)
   ·exact ⟨by omega, fun j y hj hy => if hji : j < i then hinv.2 j y hji hy else (by have e : j = i := (by omega); subst e; rw [hx] at hy; injection hy with hy; subst hy; exact h18)⟩
   ·omega
 ·intro h12
  have k12 := of_decide_eq_false h12; try simp only [A6] at k12
  have hge : s.Held.length ≤ i := by omega
  have he9 : he = (zHeld, false) := by (rw [← hhe]; unfold heldFO findH; rw [AT5 fun j y hy => hinv.2 j y (Nat.lt_of_lt_of_le (List.getElem?_eq_some_iff.1 hy).1 hge) hy])
  rw [he9]
  refine I1 ?_
  refine A3 (A2 ?_)
  refine A1 rfl rfl rfl (M7 (places := #[(0, 1), (1, 1), (2, 1), (3, 1), (4, 1)]) rfl F1 Tryz.zeroValue45 (fun w => by kernel_rfl) rfl H6 rfl) ?_
  refine D9 0 rfl rfl rfl (A0 rfl) (A0 rfl) (E9 _) rfl D3 rfl ?_
  refine A1 rfl rfl rfl (C0 rfl F3) ?_
  refine A4 ?_
  refine C7 ?_
  refine d4 0 3 1 rfl rfl (S3 2 rfl rfl (S3 3 rfl rfl R7)) ?_
  refine d4 0 4 3 rfl rfl (S3 2 rfl rfl (S3 3 rfl rfl R7)) ?_
  exact J6 [2, 2] () (trivial) rfl (by rfl) (S8 rfl (by decide) (E4 (J9 (ys := _) 0 rfl rfl H8 D3 rfl) (E4 (C3 rfl (by rfl)) J0)))
theorem Au4 (s : TState) (y : Value × Value) (r : TRec) (g : SO s) (hs : s.size ≤ 300000) (hrs : r.size ≤ 300000) : GSpec Tryz.prog 103 [AV.agg (TState.ocs s y), AV.agg r.cs] (TState.ow s y) (fun _ : Value × Value => True) (fun x => TState.ow s y ++ TState.ow (applyS s r).1 x) (fun x => AV.tup [AV.agg (TState.ocs (applyS s r).1 x), AV.bool (applyS s r).2]) := by
 obtain ⟨hs1, hs2, hs3, hs4, hs5⟩ := R4 hs
 have hgc := g.cells
 have hgh := g.hsort
 have hgt := g.tsort
 have hr2 : r.size = sizeL (fun x : Str => x.length) r.Reads + sizeL TWrite.size r.Writes := rfl
 have hr3 := O1 (f := fun x : Str => x.length) (l := r.Reads)
 have hr4 := O1 (f := TWrite.size) (l := r.Writes)
 have hho := AN4 s.Held r.Txn
 have hto := Ax9 s.Told r.Txn
 obtain ⟨h, hh⟩ : ∃ h, (heldFO s.Held r.Txn).1 = h := ⟨_, rfl⟩
 have hf1 : hasH s.Held r.Txn = true → findH s.Held r.Txn = some h := fun e => by
  rw [← hho] at e
  unfold heldFO at hh e
  cases hf : findH s.Held r.Txn with
  | none => rw [hf] at e; cases e
  | some x => rw [hf] at hh; exact congrArg some hh
 have hf0 : hasH s.Held r.Txn = false → findH s.Held r.Txn = none := fun e => r3.2 e
 have hhs : hasH s.Held r.Txn = true → h.size ≤ 300000 ∧ 1 ≤ h.Time := fun e => by
  obtain ⟨h1, h2⟩ := AI3 (hf1 e)
  obtain ⟨i, hi⟩ := List.getElem?_of_mem h1
  exact ⟨(U7 hs2 hi).1, g.times h h1⟩
 have hlen := AR4 s.Held r.Txn
 have hll : (lessH s.Held r.Txn).length ≤ s.Held.length := List.length_filter_le _ _
 refine H7 Tryz.func103 rfl Tryz.ntmps103 rfl ?_
 refine A3 (A2 ?_)
 refine L9 rfl rfl rfl rfl (A0 rfl) ?_
 intro b2
 refine L9 rfl rfl rfl rfl (A0 rfl) ?_
 intro b3
 refine G5 rfl rfl rfl rfl Tryz.zeroValue30 rfl ?_
 intro b4
 refine A1 rfl rfl rfl (C0 rfl F3) ?_
 refine A4 (A3 (A2 ?_))
 refine A1 rfl rfl rfl (F8 2 rfl (A0 rfl) rfl D8 C5 rfl) ?_
 refine I0 [3, 3] rfl rfl rfl rfl Tryz.call107 rfl (Ag1 s y (by omega)) (A7 (A0 rfl) C9) rfl ?_
 intro x14 ok14
 refine G5 rfl rfl rfl rfl Tryz.zeroValue30 rfl ?_
 intro b6
 refine D9 0 rfl rfl rfl (A0 rfl) (A0 rfl) (E9 _) rfl C5 rfl ?_
 refine A4 (A3 ?_)
 refine J3 (by first | (simp only [TState.ow, TState.ocs, pick, O2, N7, N8, N5, M9, List.nil_append, O3, O4, List.append_nil, N6, List.take_zero, N9, List.drop_zero]; exact rfl) | exact rfl) ?_
 refine A2 ?_
 refine A1 rfl rfl rfl (F8 7 rfl (A0 rfl) rfl D8 C5 rfl) ?_
 refine A1 rfl rfl rfl (B4 1 rfl B8 rfl C1 (A0 rfl) rfl) ?_
 refine A1 rfl rfl rfl (B3 6 rfl (A0 rfl) rfl D1 rfl) ?_
 refine I0 [1, 1] rfl rfl rfl rfl Tryz.call105 rfl (Ao5 s y r.Txn (by omega)) (A7 (A0 rfl) (A7 (A0 rfl) C9)) rfl ?_
 intro x19 ok19
 refine A5 rfl rfl rfl rfl rfl ?_
 refine A1 rfl rfl rfl (F0 rfl (A0 rfl) rfl) ?_
 refine A1 rfl rfl rfl (F0 rfl (A0 rfl) rfl) ?_
 refine G5 rfl rfl rfl rfl Tryz.zeroValue45 rfl ?_
 intro b7
 refine D9 0 rfl rfl rfl (A0 rfl) (A0 rfl) (E9 _) rfl D3 rfl ?_
 refine B5 rfl rfl rfl rfl rfl ?_
 refine A4 (A3 ?_)
 refine J3 (by first | (simp only [TState.ow, TState.ocs, pick, O2, N7, N8, N5, M9, List.nil_append, O3, O4, List.append_nil, N6, List.take_zero, N9, List.drop_zero]; exact rfl) | exact rfl) ?_
 refine A2 ?_
 refine A1 rfl rfl rfl (F8 8 rfl (A0 rfl) rfl D8 C5 rfl) ?_
 refine A1 rfl rfl rfl (B4 1 rfl B8 rfl C1 (A0 rfl) rfl) ?_
 refine A1 rfl rfl rfl (B3 7 rfl (A0 rfl) rfl D1 rfl) ?_
 refine A1 rfl rfl rfl (V3 rfl Tryz.call104 rfl (Al6 s r.Txn (by omega)) (Y3 (D5 (Y4 (D5 (F4 _ _) (D5 (F6 _) (D5 (F4 _ _) F5)))) (D5 (F6 _) F5))) (M5 (f9 (A0 rfl) (Y0 (G3 J5 (G3 J5 (G3 (M2 (G2 (i := 1) rfl) I7) (G3 (M2 (G2 (i := 2) rfl) I7) S1)))))) (M5 (evb (A0 rfl)) T1))) ?_
 refine A5 rfl rfl rfl rfl rfl ?_
 refine A1 rfl rfl rfl (F0 rfl (A0 rfl) rfl) ?_
 refine A1 rfl rfl rfl (F0 rfl (A0 rfl) rfl) ?_
 refine G5 rfl rfl rfl rfl Tryz.zeroValue39 rfl ?_
 intro b9
 refine D9 0 rfl rfl rfl (A0 rfl) (A0 rfl) (E9 _) rfl G7 rfl ?_
 refine B5 rfl rfl rfl rfl rfl ?_
 refine A4 (A3 (E1 (A3 ?_)))
 rw [hh]
 rw [hho, hto]
 refine J3 (by first | (simp only [TState.ow, TState.ocs, pick, O2, N7, N8, N5, M9, List.nil_append, O3, O4, List.append_nil, N6, List.take_zero, N9, List.drop_zero]; exact rfl) | exact rfl) ?_
 refine A2 ?_
 refine A1 rfl rfl rfl (B4 0 rfl B8 rfl C1 (A0 rfl) rfl) ?_
 refine A1 rfl rfl rfl (B3 8 rfl (A0 rfl) rfl D1 rfl) ?_
 refine A1 rfl rfl rfl (M0 rfl (A0 rfl) C2) ?_
 refine B5 rfl rfl rfl rfl rfl ?_
 refine A4 ?_
 refine C8 (A0 rfl) ?_ ?_
 ·intro h29
  have k29 := K3 h29; try simp only [A6] at k29
  have hk : r.Kind = 4 := by simpa using h29
  have he : applyS s r = (⟨r.Time, s.Cells, s.Held, s.Told⟩, decide (s.Floor < r.Time)) := by (unfold applyS; rw [if_pos hk])
  rw [he]
  refine A3 ?_
  refine J3 (by first | (simp only [TState.ow, TState.ocs, pick, O2, N7, N8, N5, M9, List.nil_append, O3, O4, List.append_nil, N6, List.take_zero, N9, List.drop_zero]; exact rfl) | exact rfl) ?_
  refine A2 ?_
  refine A1 rfl rfl rfl (B4 2 rfl B8 rfl C1 (A0 rfl) rfl) ?_
  refine A1 rfl rfl rfl (B3 8 rfl (A0 rfl) rfl D1 rfl) ?_
  refine A1 rfl rfl rfl (B4 0 rfl C4 rfl C1 (A0 rfl) rfl) ?_
  refine J4 4 rfl rfl rfl (A0 rfl) (A0 rfl) (K6 _ _) rfl C1 rfl ?_
  refine A4 (A3 ?_)
  refine J3 (by first | (simp only [TState.ow, TState.ocs, pick, O2, N7, N8, N5, M9, List.nil_append, O3, O4, List.append_nil, N6, List.take_zero, N9, List.drop_zero]; exact rfl) | exact rfl) ?_
  refine AWP.le (J2 [4, 7, 7] rfl) ?_
  refine e6 _ 7 (.pure 0 (.pure 1 (.pure 2 (.pure 3 (.pure 4 (.pure 5 (.e1 6 .nil))))))) (by kernel_rfl) (by kernel_rfl) rfl (X7 3) ?_
  refine K7 rfl rfl rfl (fun ext => F8 0 rfl (A0 rfl) rfl D8 C5 rfl) ?_
  refine K7 rfl rfl rfl (fun ext => B4 2 rfl B8 rfl C1 (A0 rfl) rfl) ?_
  refine K7 rfl rfl rfl (fun ext => B3 1 rfl (A0 rfl) rfl D1 rfl) ?_
  refine K7 rfl rfl rfl (fun ext => B4 0 rfl C4 rfl C1 (A0 rfl) rfl) ?_
  refine K7 rfl rfl rfl (fun ext => B3 2 rfl (A0 rfl) rfl D1 rfl) ?_
  refine K7 rfl rfl rfl (fun ext => P1 rfl (A0 rfl) (A0 rfl)) ?_
  refine Z8 ?_
  refine Ai5 rfl rfl rfl (AE4 9 rfl rfl (A0 rfl) (A0 rfl) (E9 _) rfl C5 rfl) (fun a _ => (by first | exact G1 rfl | exact G1 (List.append_assoc _ _ _) | exact J1)) ?_
  intro _ _
  refine m0 ?_
  refine B5 rfl rfl rfl rfl rfl ?_
  refine A4 ?_
  refine C7 ?_
  exact J6 [5, 5, 5, 5] (x14.1, x14.2) (trivial) rfl (by rfl) (S8 rfl (by decide) (E4 (J9 (ys := _) 9 rfl rfl D8 C5 rfl) (E4 (C3 rfl (by rfl)) J0)))
 ·intro h29
  have k29 := K2 h29; try simp only [A6] at k29
  have hk4 : r.Kind ≠ 4 := by simpa using h29
  refine A3 (A2 ?_)
  refine A5 rfl rfl rfl rfl rfl ?_
  refine B5 rfl rfl rfl rfl rfl ?_
  refine A4 ?_
  refine C8 (A0 rfl) ?_ ?_
  ·intro h42
   have he : applyS s r = (s, false) := by (unfold applyS; rw [if_neg hk4, if_pos h42])
   rw [he]
   refine A3 (A2 ?_)
   refine A1 rfl rfl rfl (F8 4 rfl (A0 rfl) rfl D8 C5 rfl) ?_
   refine D9 7 rfl rfl rfl (A0 rfl) (A0 rfl) (E9 _) rfl C5 rfl ?_
   refine A1 rfl rfl rfl (C0 rfl F3) ?_
   refine A4 ?_
   refine C7 ?_
   exact J6 [2, 2, 3, 3] (x14.1, x14.2) (trivial) rfl (by rfl) (S8 rfl (by decide) (E4 (J9 (ys := _) 7 rfl rfl D8 C5 rfl) (E4 (C3 rfl (by rfl)) J0)))
  ·intro h42
   have hT : hasT s.Told r.Txn = false := h42
   have hnT : ¬ hasT s.Told r.Txn = true := by (rw [hT]; decide)
   refine A3 (A2 ?_)
   refine A1 rfl rfl rfl (B4 0 rfl B8 rfl C1 (A0 rfl) rfl) ?_
   refine A1 rfl rfl rfl (B3 8 rfl (A0 rfl) rfl D1 rfl) ?_
   refine A1 rfl rfl rfl (M0 rfl (A0 rfl) C2) ?_
   refine B5 rfl rfl rfl rfl rfl ?_
   refine A4 ?_
   refine C8 (A0 rfl) ?_ ?_
   ·intro h45
    have k45 := K3 h45; try simp only [A6] at k45
    have hk1 : r.Kind = 1 := by simpa using h45
    have he : applyS s r = (⟨r.Time, s.Cells, insH (hOf r) s.Held, s.Told⟩, (!hasH s.Held r.Txn && decide (s.Floor < r.Time)) && fits s r.Reads r.Writes) := by (unfold applyS; rw [if_neg hk4, if_neg hnT, if_pos hk1])
    rw [he]
    refine A3 ?_
    refine AWP.le (s8 [5] 4 (.box b6 30 [AV.int s.Floor, AV.list 2 (s.Cells.map TCell.cs), AV.list 5 (s.Held.map THeld.cs), AV.is x14.2]) rfl rfl ⟨rfl, rfl, (G3 J5 (G3 J5 (G3 (M2 (G2 (i := 0) rfl) I7) (G3 J5 S1))))⟩ (S3 2 rfl rfl (S3 3 rfl rfl R7))) ?_
    refine J3 (by first | (simp only [TState.ow, TState.ocs, pick, O2, N7, N8, N5, M9, List.nil_append, O3, O4, List.append_nil, N6, List.take_zero, N9, List.drop_zero]; exact rfl) | exact rfl) ?_
    refine AWP.le (J2 [4, 6] rfl) ?_
    refine S0 _ [(0, false), (1, false), (2, false), (3, false), (4, false), (5, false), (6, false), (7, false), (8, false), (9, false), (10, false), (12, false), (13, false), (11, true), (14, true), (15, false), (16, true)] (by kernel_rfl) (by kernel_rfl) rfl (X7 2) ?_
    refine F9 rfl rfl rfl (fun ext => B4 2 rfl C4 rfl G4 (A0 rfl) rfl) ?_
    refine F9 rfl rfl rfl (fun ext => B3 0 rfl (A0 rfl) rfl J8 rfl) ?_
    refine F9 rfl rfl rfl (fun ext => B4 1 rfl B8 rfl C1 (A0 rfl) rfl) ?_
    refine F9 rfl rfl rfl (fun ext => B3 1 rfl (A0 rfl) rfl D1 rfl) ?_
    refine F9 rfl rfl rfl (fun ext => B4 2 rfl B8 rfl C1 (A0 rfl) rfl) ?_
    refine F9 rfl rfl rfl (fun ext => B3 1 rfl (A0 rfl) rfl D1 rfl) ?_
    refine F9 rfl rfl rfl (fun ext => B4 3 rfl B8 rfl C1 (A0 rfl) rfl) ?_
    refine F9 rfl rfl rfl (fun ext => B3 1 rfl (A0 rfl) rfl D1 rfl) ?_
    refine F9 rfl rfl rfl (fun ext => B4 4 rfl B8 rfl M3 (A0 rfl) rfl) ?_
    refine F9 rfl rfl rfl (fun ext => B3 1 rfl (A0 rfl) rfl P3 rfl) ?_
    refine F9 rfl rfl rfl (fun ext => E5 rfl Tryz.call169 rfl (Al8 _ (by omega)) (A7 (A0 rfl) C9)) ?_
    refine F9 rfl rfl rfl (fun ext => B4 5 rfl B8 rfl K4 (A0 rfl) rfl) ?_
    refine F9 rfl rfl rfl (fun ext => B3 1 rfl (A0 rfl) rfl L7 rfl) ?_
    refine T5 rfl rfl rfl (g8 rfl F7 H4) (fun a _ => (by first | exact G1 rfl | exact G1 (List.append_assoc _ _ _) | exact J1)) ?_
    intro v60 _
    refine T5 rfl rfl rfl (Ax5 [9] (fun _ => rfl) (fun _ => M2 (G2 (i := 0) rfl) I7) (fun _ => (S3 4 rfl rfl (S3 5 rfl rfl R7))) (Q1 (by' := 40) 9 rfl F7 Tryz.type77 rfl rfl rfl rfl rfl rfl (A0 rfl) (A0 rfl) rfl (by simp only [B6, A6]; omega))) (fun a _ => (by first | exact G1 rfl | exact G1 (List.append_assoc _ _ _) | exact J1)) ?_
    intro v63_1 _
    refine F9 rfl rfl rfl (fun ext => M7 (places := #[(0, 1), (1, 1), (2, 1), (3, 1), (4, 1)]) rfl F1 Tryz.zeroValue45 (fun w => by kernel_rfl) rfl (D7 (A0 rfl) (K6 _ _) (D7 (A0 rfl) (K6 _ _) (D7 (A0 rfl) (K6 _ _) (D7 (A0 rfl) (T0 _ _) (D7 (A0 rfl) (T0 _ _) H6))))) rfl) ?_
    refine T5 rfl rfl rfl (d3 [] rfl Tryz.call204 rfl (Ao3 s.Held (hOf r) hgh (by omega)) (A7 (A0 rfl) (A7 (A0 rfl) C9)) rfl) (fun a _ => (by first | exact G1 rfl | exact G1 (List.append_assoc _ _ _) | exact J1)) ?_
    intro x65 ok65
    refine j4 ?_
    refine A1 rfl rfl rfl (B4 2 rfl C4 rfl G4 (A0 rfl) rfl) ?_
    refine Q8 9 rfl fun one_x65 => ?_
    refine J4 0 rfl rfl rfl (A0 rfl) (A0 rfl) (R5 one_x65) rfl G4 rfl ?_
    refine A4 (A3 ?_)
    refine J3 (by first | (simp only [TState.ow, TState.ocs, pick, O2, N7, N8, N5, M9, List.nil_append, O3, O4, List.append_nil, N6, List.take_zero, N9, List.drop_zero]; exact rfl) | exact rfl) ?_
    refine A2 ?_
    refine A1 rfl rfl rfl (B4 2 rfl B8 rfl C1 (A0 rfl) rfl) ?_
    refine A1 rfl rfl rfl (B3 1 rfl (A0 rfl) rfl D1 rfl) ?_
    refine A1 rfl rfl rfl (B4 0 rfl C4 rfl C1 (A0 rfl) rfl) ?_
    refine J4 0 rfl rfl rfl (A0 rfl) (A0 rfl) (K6 _ _) rfl C1 rfl ?_
    refine A4 (A3 ?_)
    refine J3 (by first | (simp only [TState.ow, TState.ocs, pick, O2, N7, N8, N5, M9, List.nil_append, O3, O4, List.append_nil, N6, List.take_zero, N9, List.drop_zero]; exact rfl) | exact rfl) ?_
    refine AWP.le (J2 [0, 0, 6, 2, 2] rfl) ?_
    refine e6 _ 19 (.pure 0 (.pure 1 (.pure 2 (.pure 3 (.pure 4 (.pure 5 (.pure 6 (.pure 7 (.pure 8 (.pure 9 (.pure 10 (.pure 11 (.pure 12 (.pure 13 (.pure 14 (.pure 15 (.pure 16 (.pure 17 (.e1 18 .nil))))))))))))))))))) (by kernel_rfl) (by kernel_rfl) rfl (X7 5) ?_
    refine K7 rfl rfl rfl (fun ext => F8 0 rfl (A0 rfl) rfl D8 C5 rfl) ?_
    refine K7 rfl rfl rfl (fun ext => C6 rfl (A0 rfl)) ?_
    refine K7 rfl rfl rfl (fun ext => J7 rfl (A0 rfl)) ?_
    refine K7 rfl rfl rfl (fun ext => C6 rfl (A0 rfl)) ?_
    refine m1 rfl rfl (B9 rfl rfl rfl) (fun hc ext => B4 2 rfl B8 rfl C1 (A0 rfl) rfl) ?_
    refine m1 rfl rfl (B9 rfl rfl rfl) (fun hc ext => B3 1 rfl (B0 rfl hc) rfl D1 rfl) ?_
    refine m1 rfl rfl (B9 rfl rfl rfl) (fun hc ext => B4 0 rfl C4 rfl C1 (A0 rfl) rfl) ?_
    refine m1 rfl rfl (B9 rfl rfl rfl) (fun hc ext => B3 2 rfl (B0 rfl hc) rfl D1 rfl) ?_
    refine m1 rfl rfl (B9 rfl rfl rfl) (fun hc ext => P1 rfl (B0 rfl hc) (B0 rfl hc)) ?_
    refine K7 rfl rfl rfl (fun ext => I3 rfl (A0 rfl) (G0 rfl)) ?_
    refine K7 rfl rfl rfl (fun ext => C6 rfl (A0 rfl)) ?_
    refine m1 rfl rfl (B9 rfl rfl rfl) (fun hc ext => F8 2 rfl (A0 rfl) rfl D8 C5 rfl) ?_
    refine m1 rfl rfl (B9 rfl rfl rfl) (fun hc ext => B4 4 rfl B8 rfl M3 (A0 rfl) rfl) ?_
    refine m1 rfl rfl (B9 rfl rfl rfl) (fun hc ext => B3 1 rfl (B0 rfl hc) rfl P3 rfl) ?_
    refine m1 rfl rfl (B9 rfl rfl rfl) (fun hc ext => B4 5 rfl B8 rfl K4 (A0 rfl) rfl) ?_
    refine m1 rfl rfl (B9 rfl rfl rfl) (fun hc ext => B3 1 rfl (B0 rfl hc) rfl L7 rfl) ?_
    refine m1 rfl rfl (B9 rfl rfl rfl) (fun hc ext => V3 rfl Tryz.call126 rfl (AX4 s r.Reads r.Writes (by omega) (by omega)) (F6 _) (M5 (f9 (B0 rfl hc) (Y0 (G3 J5 (G3 J5 (G3 (M2 (G2 (i := 3) rfl) I7) (G3 (M2 (G2 (i := 4) rfl) I7) S1)))))) (M5 (evb (B0 rfl hc)) (M5 (evb (B0 rfl hc)) T1)))) ?_
    refine K7 rfl rfl rfl (fun ext => I3 rfl (A0 rfl) (G0 rfl)) ?_
    refine Z8 ?_
    refine Ai5 rfl rfl rfl (AE4 8 rfl rfl (A0 rfl) (A0 rfl) (E9 _) rfl C5 rfl) (fun a _ => (by first | exact G1 rfl | exact G1 (List.append_assoc _ _ _) | exact J1)) ?_
    intro _ _
    refine m0 ?_
    refine B5 rfl rfl rfl rfl rfl ?_
    refine A4 ?_
    refine C7 ?_
    exact J6 [3, 3, 7, 5] (x65, x14.2) (trivial) rfl (by rfl) (S8 rfl (by decide) (E4 (J9 (ys := _) 8 rfl rfl D8 C5 rfl) (E4 (C3 rfl (by rfl)) J0)))
   ·intro h45
    have k45 := K2 h45; try simp only [A6] at k45
    have hk1 : r.Kind ≠ 1 := by simpa using h45
    have hap : applyS s r = (if r.Yes = true then (match findH s.Held r.Txn with | none => (s, false) | some h => if r.Time < h.Time then (s, false) else if (putP s.Cells h.Writes r.Time).2 = true then (doneS s r (if s.Floor < r.Time then r.Time else s.Floor) (putP s.Cells h.Writes r.Time).1, true) else (s, false)) else (doneS s r s.Floor s.Cells, true)) := by (unfold applyS; rw [if_neg hk4, if_neg hnT, if_neg hk1]; rfl)
    refine A3 (A2 ?_)
    refine A1 rfl rfl rfl (B4 6 rfl B8 rfl I8 (A0 rfl) rfl) ?_
    refine A1 rfl rfl rfl (B3 8 rfl (A0 rfl) rfl L2 rfl) ?_
    refine B5 rfl rfl rfl rfl rfl ?_
    refine A4 ?_
    refine C8 (A0 rfl) ?_ ?_
    ·intro h88
     refine A3 (A3 (A2 ?_))
     refine A5 rfl rfl rfl rfl rfl ?_
     refine A1 rfl rfl rfl (J7 rfl (A0 rfl)) ?_
     refine A5 rfl rfl rfl rfl rfl ?_
     refine B1 rfl rfl (D4 rfl rfl rfl) (fun hc => B4 1 rfl F1 rfl C1 (A0 rfl) rfl) ?_
     refine B1 rfl rfl (D4 rfl rfl rfl) (fun hc => B3 1 rfl (B0 rfl hc) rfl D1 rfl) ?_
     refine B1 rfl rfl (D4 rfl rfl rfl) (fun hc => B4 2 rfl B8 rfl C1 (A0 rfl) rfl) ?_
     refine B1 rfl rfl (D4 rfl rfl rfl) (fun hc => B3 8 rfl (B0 rfl hc) rfl D1 rfl) ?_
     refine B1 rfl rfl (D4 rfl rfl rfl) (fun hc => P1 rfl (B0 rfl hc) (B0 rfl hc)) ?_
     refine A1 rfl rfl rfl (P5 rfl (A0 rfl) (G0 rfl)) ?_
     refine A4 ?_
     refine C8 (A0 rfl) ?_ ?_
     ·intro h99
      have he : applyS s r = (s, false) := by (rw [hap, if_pos h88]; cases e : hasH s.Held r.Txn with | false => (rw [hf0 e]) | true => (rw [hf1 e]; dsimp only; rw [if_pos (by rw [e] at h99; simpa using h99)]))
      rw [he]
      refine A3 ?_
      refine J3 (by first | (simp only [TState.ow, TState.ocs, pick, O2, N7, N8, N5, M9, List.nil_append, O3, O4, List.append_nil, N6, List.take_zero, N9, List.drop_zero]; exact rfl) | exact rfl) ?_
      refine A2 ?_
      refine A1 rfl rfl rfl (F8 4 rfl (A0 rfl) rfl D8 C5 rfl) ?_
      refine D9 7 rfl rfl rfl (A0 rfl) (A0 rfl) (E9 _) rfl C5 rfl ?_
      refine A1 rfl rfl rfl (C0 rfl F3) ?_
      refine A4 ?_
      refine C7 ?_
      exact J6 [2, 2, 3, 3] (x14.1, x14.2) (trivial) rfl (by rfl) (S8 rfl (by decide) (E4 (J9 (ys := _) 7 rfl rfl D8 C5 rfl) (E4 (C3 rfl (by rfl)) J0)))
     ·intro h99
      simp only [Bool.or_eq_false_iff, Bool.not_eq_false', decide_eq_false_iff_not] at h99
      obtain ⟨hhas, hnlt⟩ := h99
      obtain ⟨hz1, hz2⟩ := hhs hhas
      have hz3 : h.size = sizeL (fun x => x.length) h.Reads + sizeL TWrite.size h.Writes := rfl
      refine D2 (A3 ?_)
      refine J3 (by first | (simp only [TState.ow, TState.ocs, pick, O2, N7, N8, N5, M9, List.nil_append, O3, O4, List.append_nil, N6, List.take_zero, N9, List.drop_zero]; exact rfl) | exact rfl) ?_
      refine A2 ?_
      refine A1 rfl rfl rfl (B4 1 rfl C4 rfl O5 (A0 rfl) rfl) ?_
      refine A1 rfl rfl rfl (B3 9 rfl (A0 rfl) rfl Q5 rfl) ?_
      refine A1 rfl rfl rfl (B4 4 rfl F1 rfl K4 (A0 rfl) rfl) ?_
      refine A1 rfl rfl rfl (B3 1 rfl (A0 rfl) rfl L7 rfl) ?_
      refine A1 rfl rfl rfl (B4 2 rfl B8 rfl C1 (A0 rfl) rfl) ?_
      refine A1 rfl rfl rfl (B3 8 rfl (A0 rfl) rfl D1 rfl) ?_
      refine A1 rfl rfl rfl (E5 rfl Tryz.call205 rfl (Ao4 s.Cells h.Writes r.Time hgc (by omega) (by omega) (by omega)) (A7 (A0 rfl) (A7 (A0 rfl) (A7 (A0 rfl) C9)))) ?_
      refine A5 rfl rfl rfl rfl rfl ?_
      refine A1 rfl rfl rfl (F0 rfl (A0 rfl) rfl) ?_
      refine A1 rfl rfl rfl (F0 rfl (A0 rfl) rfl) ?_
      refine B5 rfl rfl rfl rfl rfl ?_
      refine B5 rfl rfl rfl rfl rfl ?_
      refine A4 (A3 (A3 (A2 ?_)))
      refine A5 rfl rfl rfl rfl rfl ?_
      refine A1 rfl rfl rfl (J7 rfl (A0 rfl)) ?_
      refine A4 ?_
      refine C8 (A0 rfl) ?_ ?_
      ·intro h112
       have he : applyS s r = (s, false) := by (rw [hap, if_pos h88, hf1 hhas]; dsimp only; rw [if_neg (by omega), if_neg (by simpa using h112)])
       rw [he]
       refine A3 (A2 ?_)
       refine A1 rfl rfl rfl (F8 4 rfl (A0 rfl) rfl D8 C5 rfl) ?_
       refine D9 7 rfl rfl rfl (A0 rfl) (A0 rfl) (E9 _) rfl C5 rfl ?_
       refine A1 rfl rfl rfl (C0 rfl F3) ?_
       refine A4 ?_
       refine C7 ?_
       exact J6 [2, 2, 3, 3] (x14.1, x14.2) (trivial) rfl (by rfl) (S8 rfl (by decide) (E4 (J9 (ys := _) 7 rfl rfl D8 C5 rfl) (E4 (C3 rfl (by rfl)) J0)))
      ·intro h112
       have he : applyS s r = (doneS s r (if s.Floor < r.Time then r.Time else s.Floor) (putP s.Cells h.Writes r.Time).1, true) := by (rw [hap, if_pos h88, hf1 hhas]; dsimp only; rw [if_neg (by omega), if_pos (by simpa using h112)])
       rw [he]
       unfold doneS
       refine D2 (A3 ?_)
       refine J3 (by first | (simp only [TState.ow, TState.ocs, pick, O2, N7, N8, N5, M9, List.nil_append, O3, O4, List.append_nil, N6, List.take_zero, N9, List.drop_zero]; exact rfl) | exact rfl) ?_
       refine A2 ?_
       refine A5 rfl rfl rfl rfl rfl ?_
       refine A1 rfl rfl rfl (B4 1 rfl C4 rfl O5 (A0 rfl) rfl) ?_
       refine J4 4 rfl rfl rfl (A0 rfl) (A0 rfl) (T0 _ _) rfl O5 rfl ?_
       refine A4 ?_
       refine J3 (by first | (simp only [TState.ow, TState.ocs, pick, O2, N7, N8, N5, M9, List.nil_append, O3, O4, List.append_nil, N6, List.take_zero, N9, List.drop_zero]; exact rfl) | exact rfl) ?_
       refine A2 ?_
       refine A1 rfl rfl rfl (B4 0 rfl C4 rfl C1 (A0 rfl) rfl) ?_
       refine A1 rfl rfl rfl (B3 9 rfl (A0 rfl) rfl D1 rfl) ?_
       refine A1 rfl rfl rfl (B4 2 rfl B8 rfl C1 (A0 rfl) rfl) ?_
       refine A1 rfl rfl rfl (B3 8 rfl (A0 rfl) rfl D1 rfl) ?_
       refine A1 rfl rfl rfl (E5 rfl Tryz.call130 rfl (Al9 _ _) (A7 (A0 rfl) (A7 (A0 rfl) C9))) ?_
       refine A1 rfl rfl rfl (B4 0 rfl C4 rfl C1 (A0 rfl) rfl) ?_
       refine J4 4 rfl rfl rfl (A0 rfl) (A0 rfl) (K6 _ _) rfl C1 rfl ?_
       refine A4 (A3 ?_)
       refine AWP.le (s8 [5, 5] 4 (.box b6 30 [_, _, AV.list 5 (s.Held.map THeld.cs), AV.list 3 (s.Told.map TTold.cs)]) rfl rfl ⟨rfl, rfl, (G3 J5 (G3 J5 (G3 (M2 (G2 (i := 0) rfl) I7) (G3 (M2 (G2 (i := 1) rfl) I7) S1))))⟩ (S3 2 rfl rfl (S3 3 rfl rfl R7))) ?_
       refine J3 (by first | (simp only [TState.ow, TState.ocs, pick, O2, N7, N8, N5, M9, List.nil_append, O3, O4, List.append_nil, N6, List.take_zero, N9, List.drop_zero]; exact rfl) | exact rfl) ?_
       refine A2 ?_
       refine A1 rfl rfl rfl (B4 2 rfl C4 rfl G4 (A0 rfl) rfl) ?_
       refine A1 rfl rfl rfl (B3 4 rfl (A0 rfl) rfl J8 rfl) ?_
       refine A1 rfl rfl rfl (B4 1 rfl B8 rfl C1 (A0 rfl) rfl) ?_
       refine A1 rfl rfl rfl (B3 6 rfl (A0 rfl) rfl D1 rfl) ?_
       refine I0 [] rfl rfl rfl rfl Tryz.call206 rfl (Al7 s.Held r.Txn (by omega)) (A7 (A0 rfl) (A7 (A0 rfl) C9)) rfl ?_
       intro x126 ok126
       refine A1 rfl rfl rfl (B4 2 rfl C4 rfl G4 (A0 rfl) rfl) ?_
       refine Q8 0 rfl fun one_x126 => ?_
       refine J4 5 rfl rfl rfl (A0 rfl) (A0 rfl) (R5 one_x126) rfl G4 rfl ?_
       refine A4 (A3 ?_)
       refine J3 (by first | (simp only [TState.ow, TState.ocs, pick, O2, N7, N8, N5, M9, List.nil_append, O3, O4, List.append_nil, N6, List.take_zero, N9, List.drop_zero]; exact rfl) | exact rfl) ?_
       refine A2 ?_
       refine A1 rfl rfl rfl (B4 3 rfl C4 rfl K5 (A0 rfl) rfl) ?_
       refine A1 rfl rfl rfl (B3 5 rfl (A0 rfl) rfl Q0 rfl) ?_
       refine A1 rfl rfl rfl (B4 1 rfl B8 rfl C1 (A0 rfl) rfl) ?_
       refine A1 rfl rfl rfl (B3 7 rfl (A0 rfl) rfl D1 rfl) ?_
       refine A1 rfl rfl rfl (B4 6 rfl B8 rfl I8 (A0 rfl) rfl) ?_
       refine A1 rfl rfl rfl (B3 7 rfl (A0 rfl) rfl L2 rfl) ?_
       refine A1 rfl rfl rfl (B4 2 rfl B8 rfl C1 (A0 rfl) rfl) ?_
       refine A1 rfl rfl rfl (B3 7 rfl (A0 rfl) rfl D1 rfl) ?_
       refine A1 rfl rfl rfl (M7 (places := #[(0, 1), (1, 1), (2, 1)]) rfl I9 Tryz.zeroValue39 (fun w => by kernel_rfl) rfl (D7 (A0 rfl) (K6 _ _) (D7 (A0 rfl) (Y2 _) (D7 (A0 rfl) (K6 _ _) H6))) rfl) ?_
       refine I0 [] rfl rfl rfl rfl Tryz.call207 rfl (AR5 s.Told ⟨r.Txn, r.Yes, r.Time⟩ hgt (by omega)) (A7 (A0 rfl) (A7 (A0 rfl) C9)) rfl ?_
       intro x137 ok137
       refine A1 rfl rfl rfl (B4 3 rfl C4 rfl K5 (A0 rfl) rfl) ?_
       refine Q8 0 rfl fun one_x137 => ?_
       refine J4 6 rfl rfl rfl (A0 rfl) (A0 rfl) (R5 one_x137) rfl K5 rfl ?_
       refine A4 (A3 ?_)
       refine J3 (by first | (simp only [TState.ow, TState.ocs, pick, O2, N7, N8, N5, M9, List.nil_append, O3, O4, List.append_nil, N6, List.take_zero, N9, List.drop_zero]; exact rfl) | exact rfl) ?_
       refine A2 ?_
       refine A1 rfl rfl rfl (F8 6 rfl (A0 rfl) rfl D8 C5 rfl) ?_
       refine D9 7 rfl rfl rfl (A0 rfl) (A0 rfl) (E9 _) rfl C5 rfl ?_
       refine A1 rfl rfl rfl (C0 rfl F3) ?_
       refine A4 ?_
       refine C7 ?_
       exact J6 [4, 4, 1, 0] (x126, x137) (trivial) rfl (by rfl) (S8 rfl (by decide) (E4 (J9 (ys := _) 7 rfl rfl D8 C5 rfl) (E4 (C3 rfl (by rfl)) J0)))
    ·intro h88
     have he : applyS s r = (doneS s r s.Floor s.Cells, true) := by (rw [hap, if_neg (by rw [h88]; decide)])
     rw [he]
     unfold doneS
     refine D2 (A3 ?_)
     refine AWP.le (s8 [5, 5] 4 (.box b6 30 [_, _, AV.list 5 (s.Held.map THeld.cs), AV.list 3 (s.Told.map TTold.cs)]) rfl rfl ⟨rfl, rfl, (G3 J5 (G3 J5 (G3 (M2 (G2 (i := 0) rfl) I7) (G3 (M2 (G2 (i := 1) rfl) I7) S1))))⟩ (S3 2 rfl rfl (S3 3 rfl rfl R7))) ?_
     refine J3 (by first | (simp only [TState.ow, TState.ocs, pick, O2, N7, N8, N5, M9, List.nil_append, O3, O4, List.append_nil, N6, List.take_zero, N9, List.drop_zero]; exact rfl) | exact rfl) ?_
     refine A2 ?_
     refine A1 rfl rfl rfl (B4 2 rfl C4 rfl G4 (A0 rfl) rfl) ?_
     refine A1 rfl rfl rfl (B3 4 rfl (A0 rfl) rfl J8 rfl) ?_
     refine A1 rfl rfl rfl (B4 1 rfl B8 rfl C1 (A0 rfl) rfl) ?_
     refine A1 rfl rfl rfl (B3 6 rfl (A0 rfl) rfl D1 rfl) ?_
     refine I0 [] rfl rfl rfl rfl Tryz.call206 rfl (Al7 s.Held r.Txn (by omega)) (A7 (A0 rfl) (A7 (A0 rfl) C9)) rfl ?_
     intro x126 ok126
     refine A1 rfl rfl rfl (B4 2 rfl C4 rfl G4 (A0 rfl) rfl) ?_
     refine Q8 0 rfl fun one_x126 => ?_
     refine J4 5 rfl rfl rfl (A0 rfl) (A0 rfl) (R5 one_x126) rfl G4 rfl ?_
     refine A4 (A3 ?_)
     refine J3 (by first | (simp only [TState.ow, TState.ocs, pick, O2, N7, N8, N5, M9, List.nil_append, O3, O4, List.append_nil, N6, List.take_zero, N9, List.drop_zero]; exact rfl) | exact rfl) ?_
     refine A2 ?_
     refine A1 rfl rfl rfl (B4 3 rfl C4 rfl K5 (A0 rfl) rfl) ?_
     refine A1 rfl rfl rfl (B3 5 rfl (A0 rfl) rfl Q0 rfl) ?_
     refine A1 rfl rfl rfl (B4 1 rfl B8 rfl C1 (A0 rfl) rfl) ?_
     refine A1 rfl rfl rfl (B3 7 rfl (A0 rfl) rfl D1 rfl) ?_
     refine A1 rfl rfl rfl (B4 6 rfl B8 rfl I8 (A0 rfl) rfl) ?_
     refine A1 rfl rfl rfl (B3 7 rfl (A0 rfl) rfl L2 rfl) ?_
     refine A1 rfl rfl rfl (B4 2 rfl B8 rfl C1 (A0 rfl) rfl) ?_
     refine A1 rfl rfl rfl (B3 7 rfl (A0 rfl) rfl D1 rfl) ?_
     refine A1 rfl rfl rfl (M7 (places := #[(0, 1), (1, 1), (2, 1)]) rfl I9 Tryz.zeroValue39 (fun w => by kernel_rfl) rfl (D7 (A0 rfl) (K6 _ _) (D7 (A0 rfl) (Y2 _) (D7 (A0 rfl) (K6 _ _) H6))) rfl) ?_
     refine I0 [] rfl rfl rfl rfl Tryz.call207 rfl (AR5 s.Told ⟨r.Txn, r.Yes, r.Time⟩ hgt (by omega)) (A7 (A0 rfl) (A7 (A0 rfl) C9)) rfl ?_
     intro x137 ok137
     refine A1 rfl rfl rfl (B4 3 rfl C4 rfl K5 (A0 rfl) rfl) ?_
     refine Q8 0 rfl fun one_x137 => ?_
     refine J4 6 rfl rfl rfl (A0 rfl) (A0 rfl) (R5 one_x137) rfl K5 rfl ?_
     refine A4 (A3 ?_)
     refine J3 (by first | (simp only [TState.ow, TState.ocs, pick, O2, N7, N8, N5, M9, List.nil_append, O3, O4, List.append_nil, N6, List.take_zero, N9, List.drop_zero]; exact rfl) | exact rfl) ?_
     refine A2 ?_
     refine A1 rfl rfl rfl (F8 6 rfl (A0 rfl) rfl D8 C5 rfl) ?_
     refine D9 7 rfl rfl rfl (A0 rfl) (A0 rfl) (E9 _) rfl C5 rfl ?_
     refine A1 rfl rfl rfl (C0 rfl F3) ?_
     refine A4 ?_
     refine C7 ?_
     exact J6 [4, 4, 1, 0] (x126, x137) (trivial) rfl (by rfl) (S8 rfl (by decide) (E4 (J9 (ys := _) 7 rfl rfl D8 C5 rfl) (E4 (C3 rfl (by rfl)) J0)))
end Go.Proofs.YtnlhbdkcgaeimaaGreat
