/- Texts of the claim, part 5. -/
import Derived.Test.YtkegepoihkhihaaGreatZRefeed4

set_option linter.unusedVariables false
set_option linter.unusedSimpArgs false
set_option maxRecDepth 100000
set_option maxHeartbeats 1000000
namespace Go.M
open Go.AV
theorem fullC_at {l : List TCell} {k : Str} {c : TCell} (hc : ¬ atC l k < 0 → findC l k = some c) : fullC l k = (decide ((0 : Int) ≤ atC l k) && decide ((16 : Int) ≤ (c.Vers.length : Int))) := by
  unfold fullC
  by_cases h : atC l k < 0
  · rw [As8 h, decide_eq_false (by omega)]; rfl
  · rw [hc h, decide_eq_true (by omega), Bool.true_and]
    dsimp only
    rw [decide_eq_decide]; omega
theorem at_some (l : List TCell) (k : Str) : ∃ c : TCell, ¬ atC l k < 0 → (∃ p : Nat, atC l k = (p : Int) ∧ l[p]? = some c) ∧ findC l k = some c := by
  by_cases h : atC l k < 0
  · exact ⟨⟨[], []⟩, fun k => absurd h k⟩
  · obtain ⟨p, c, h1, h2, h3⟩ := As9 h
    exact ⟨c, fun _ => ⟨⟨p, h1, h2⟩, h3⟩⟩
theorem AA1 {s : TState} {i : Nat} {h y : THeld} (hx : s.Held[i]? = some h) (hy : s.Held[i - 1]? = some y) : heldAt s i = (!((!l4Good (hRec h) || decide (s.Floor < h.Time)) || (decide ((0 : Int) < (i : Int)) && decide (h.Txn ≤ y.Txn))) && ((s.Held.take i).all (fun g => apart g h.Reads h.Writes) && h.Writes.all fun w => decide (lastTime s.Cells w.Key < h.Time))) := by
  rw [w7 hx hy, AG9]
  have h2 : ((s.Held.take i).all fun g => apart g h.Reads h.Writes) = !((s.Held.take i).any fun g => clash h g) := by
    rw [List.not_any_eq_all_not]; congr 1; funext g; rw [AP8, Bool.not_not]
  have h3 : (h.Writes.all fun w => decide (lastTime s.Cells w.Key < h.Time)) = !(h.Writes.any fun w => decide (h.Time ≤ lastTime s.Cells w.Key)) := by
    rw [List.not_any_eq_all_not]; congr 1; funext w; rw [← decide_not, decide_eq_decide]; omega
  rw [h2, h3]
theorem AI4 {s : TState} {i : Nat} {t y : TTold} (hx : s.Told[i]? = some t) (hy : s.Told[i - 1]? = some y) : toldAt s i = (!((((!within t.Txn 1 60 || (decide ((0 : Int) < (i : Int)) && decide (t.Txn ≤ y.Txn))) || (t.Yes && !within t.Time 1 s.Floor)) || (!t.Yes && (t.Time != 0)))) && !hasH s.Held t.Txn) := by
  rw [AD4 hx hy]
  congr 2
  show ((!within t.Txn 1 60 || _) || _) = _
  have e : (!((t.Yes && within t.Time 1 s.Floor) || (!t.Yes && (t.Time == 0)))) = ((t.Yes && !within t.Time 1 s.Floor) || (!t.Yes && (t.Time != 0))) := by
    show _ = ((t.Yes && !within t.Time 1 s.Floor) || (!t.Yes && !(t.Time == 0)))
    cases t.Yes <;> simp
  rw [e]
  cases within t.Txn 1 60 <;> cases (decide ((0 : Int) < (i : Int)) && decide (t.Txn ≤ y.Txn)) <;> cases (t.Yes && !within t.Time 1 s.Floor) <;> cases (!t.Yes && (t.Time != 0)) <;> rfl
def heldFO (l : List THeld) (n : Int) : THeld × Bool := match findH l n with | some h => (h, true) | none => (zHeld, false)
def toldFO (l : List TTold) (n : Int) : TTold × Bool := match findT l n with | some h => (h, true) | none => (zTold, false)
theorem AD5 (l : List THeld) (n : Int) : (heldFO l n).2 = hasH l n := by
  unfold heldFO
  cases h : findH l n with
  | none => exact (AH6.1 h).symm
  | some x => obtain ⟨h1, h2⟩ := AH5 h; exact (hasH_iff.2 ⟨x, h1, h2⟩).symm
theorem Af0 (l : List TTold) (n : Int) : (toldFO l n).2 = hasT l n := by
  unfold toldFO
  cases h : findT l n with
  | none => exact (Aw7.1 h).symm
  | some x =>
    unfold findT at h
    exact (hasT_iff.2 ⟨x, List.mem_of_find?_eq_some h, by simpa using List.find?_some h⟩).symm
theorem AA2 {α : Type} {p : α → Bool} : ∀ {l : List α} {i : Nat} {x : α}, l[i]? = some x → p x = true → (∀ j y, j < i → l[j]? = some y → p y = false) → l.find? p = some x
  | [], i, x, h, _, _ => by simp at h
  | y :: l, 0, x, h, hp, _ => by simp at h; subst h; rw [List.find?_cons, hp]
  | y :: l, i + 1, x, h, hp, hn => by
    rw [List.find?_cons, hn 0 y (by omega) rfl]
    exact AA2 (by simpa using h) hp fun j z hj hz => hn (j + 1) z (by omega) (by simpa using hz)
theorem AT3 {α : Type} {p : α → Bool} {l : List α} (hn : ∀ (j : Nat) (y : α), l[j]? = some y → p y = false) : l.find? p = none := by
  rw [List.find?_eq_none]
  intro x hx
  obtain ⟨j, hj⟩ := List.getElem?_of_mem hx
  rw [hn j x hj]; decide
end Go.M
namespace Go.Proofs.YtkegepoihkhihaaGreat
open Go Go.AV Go.M
attribute [local irreducible] OpW OpA OpS AWP FSpec ESpec GSpec OpE RetOk RetOkG RvDen Le Ev GuardIs SrcIs Int.tmod Int.tdiv IntKind.wrap
theorem Ah7 (h : THeld) : FSpec Tryz.prog 177 [AV.agg h.cs] (AV.agg (hRec h).cs) := by
 refine E5 Tryz.func177 rfl Tryz.ntmps177 rfl ?_
 refine A3 (A2 ?_)
 refine N8 rfl rfl rfl rfl (A0 rfl) ?_
 intro b1
 refine F9 rfl rfl rfl rfl Tryz.zeroValue104 rfl ?_
 intro b2
 refine A4 (A3 (A2 ?_))
 refine A1 rfl (B1 0 rfl F1 rfl B3 (A0 rfl) rfl) ?_
 refine A1 rfl (B0 1 rfl (A0 rfl) rfl B9 rfl) ?_
 refine A1 rfl (B1 1 rfl F1 rfl B3 (A0 rfl) rfl) ?_
 refine A1 rfl (B0 1 rfl (A0 rfl) rfl B9 rfl) ?_
 refine A1 rfl (B1 2 rfl F1 rfl B3 (A0 rfl) rfl) ?_
 refine A1 rfl (B0 1 rfl (A0 rfl) rfl B9 rfl) ?_
 refine A1 rfl (B1 3 rfl F1 rfl M7 (A0 rfl) rfl) ?_
 refine A1 rfl (B0 1 rfl (A0 rfl) rfl P6 rfl) ?_
 refine A1 rfl (B1 4 rfl F1 rfl K2 (A0 rfl) rfl) ?_
 refine A1 rfl (B0 1 rfl (A0 rfl) rfl L9 rfl) ?_
 refine A1 rfl (O0 (places := #[(0, 1), (1, 1), (2, 1), (3, 1), (4, 1), (5, 1), (6, 1)]) rfl B4 Tryz.zeroValue104 (fun w => by kernel_rfl) rfl (D9 B6 (K5 _ _) (D9 (A0 rfl) (K5 _ _) (D9 (A0 rfl) (K5 _ _) (D9 (A0 rfl) (K5 _ _) (D9 (A0 rfl) (U8 _ _) (D9 (A0 rfl) (U8 _ _) H7)))))) rfl) ?_
 refine D6 0 rfl rfl rfl (A0 rfl) (A0 rfl) (E7 _) rfl F8 rfl ?_
 refine A4 ?_
 refine C5 ?_
 exact H5 rfl (L1 (ys := _) 0 rfl rfl M8 F8 rfl)
theorem AW1 (l : List TWrite) (k : Str) : FSpec Tryz.prog 214 [AV.list 3 (l.map TWrite.cs), AV.str k] (AV.bool (hasK l k)) := by
 refine E5 Tryz.func214 rfl Tryz.ntmps214 rfl ?_
 refine U1 (t := 0) rfl fun hl => ?_
 try simp only [A8] at hl
 refine A3 (A2 ?_)
 refine A1 rfl (B7 rfl F5) ?_
 refine A4 (A3 (A3 (A2 ?_)))
 refine A5 rfl ?_
 refine A1 rfl (G9 rfl G3 (A0 rfl)) ?_
 refine A1 rfl (C1 rfl B6) ?_
 refine A4 (C8 ?_)
 refine J1 [(1, _), (7, _), (8, _)] _ (fun (i : Nat) => i ≤ l.length ∧ hasK l k = (l.drop i).any (fun w => w.Key == k)) (fun (i : Nat) => []) (fun (i : Nat) => [(9, AV.int i)]) (fun (i : Nat) => l.length - i) (0) ?_ (K0 ⟨rfl, rfl, rfl, rfl, trivial⟩) ?_
 ·exact ⟨Nat.zero_le _, rfl⟩
 intro i hinv
 refine A3 (A2 ?_)
 refine A1 rfl (J6 rfl (A0 rfl) (A0 rfl)) ?_
 refine A4 (A3 ?_)
 refine C4 (A0 rfl) ?_ ?_
 ·intro h10
  have k10 := of_decide_eq_true h10; try simp only [A8] at k10
  have hlt : i < l.length := by omega
  obtain ⟨x, hx⟩ := get_some hlt
  refine C7 (A3 (C8 (A3 (A2 ?_))))
  refine A1 rfl (I9 rfl G3 I3 (A0 rfl) (A0 rfl) hx (by first | omega | (simp only [D3, A9, szR] at *; omega))) ?_
  refine A1 rfl (K6 rfl (A0 rfl) U5 I3) ?_
  refine F9 rfl rfl rfl rfl Tryz.zeroValue101 rfl ?_
  intro b6
  refine D6 0 rfl rfl rfl (A0 rfl) (A0 rfl) (E7 _) rfl I3 rfl ?_
  refine A4 (A3 (A2 ?_))
  refine A1 rfl (B1 0 rfl J0 rfl E8 (A0 rfl) rfl) ?_
  refine A1 rfl (B0 0 rfl (A0 rfl) rfl G5 rfl) ?_
  refine A5 rfl ?_
  refine A1 rfl (u9 rfl (A0 rfl) (A0 rfl)) ?_
  refine A4 ?_
  refine C4 (A0 rfl) ?_ ?_
  ·intro h16
   refine A3 (A2 ?_)
   refine A1 rfl (B7 rfl F5) ?_
   refine A4 ?_
   refine C5 ?_
   exact H5 rfl (C3 rfl (by first | exact congrArg AV.bool (by rw [hinv.2, drop_some hx, List.any_cons, h16]; rfl) | exact congrArg AV.bool (by rw [hinv.2, List.drop_eq_nil_of_le hge]; rfl)))
  intro h16
  refine C7 (A2 ?_)
  refine A1 rfl (G8 rfl (A0 rfl) B6 (by first | omega | (simp only [D3, A9, szR] at *; omega))) ?_
  refine A5 rfl ?_
  refine A4 ?_
  refine L4 i (i + 1) ?_ ?_ (U3 1 ⟨rfl, rfl, rfl, rfl, trivial⟩)
  ·exact ⟨by omega, by rw [hinv.2, drop_some hx, List.any_cons, h16]; rfl⟩
  omega
 intro h10
 have k10 := of_decide_eq_false h10; try simp only [A8] at k10
 have hge : l.length ≤ i := by omega
 refine G6 ?_
 refine A3 (A2 ?_)
 refine A1 rfl (B7 rfl F5) ?_
 refine A4 ?_
 refine C5 ?_
 exact H5 rfl (C3 rfl (by first | exact congrArg AV.bool (by rw [hinv.2, drop_some hx, List.any_cons, h16]; rfl) | exact congrArg AV.bool (by rw [hinv.2, List.drop_eq_nil_of_le hge]; rfl)))
theorem Aw8 (l : List Str) (k : Str) : FSpec Tryz.prog 215 [strs l, AV.str k] (AV.bool (hasS l k)) := by
 refine E5 Tryz.func215 rfl Tryz.ntmps215 rfl ?_
 refine U1 (t := 0) rfl fun hl => ?_
 try simp only [A8] at hl
 refine A3 (A2 ?_)
 refine A1 rfl (B7 rfl F5) ?_
 refine A4 (A3 (A3 (A2 ?_)))
 refine A5 rfl ?_
 refine A1 rfl (G9 rfl E3 (A0 rfl)) ?_
 refine A1 rfl (C1 rfl B6) ?_
 refine A4 (C8 ?_)
 refine J1 [(1, _), (7, _), (8, _)] _ (fun (i : Nat) => i ≤ l.length ∧ hasS l k = (l.drop i).any (fun x => k == x)) (fun (i : Nat) => []) (fun (i : Nat) => [(9, AV.int i)]) (fun (i : Nat) => l.length - i) (0) ?_ (K0 ⟨rfl, rfl, rfl, rfl, trivial⟩) ?_
 ·exact ⟨Nat.zero_le _, rfl⟩
 intro i hinv
 refine A3 (A2 ?_)
 refine A1 rfl (J6 rfl (A0 rfl) (A0 rfl)) ?_
 refine A4 (A3 ?_)
 refine C4 (A0 rfl) ?_ ?_
 ·intro h10
  have k10 := of_decide_eq_true h10; try simp only [A8] at k10
  have hlt : i < l.length := by omega
  obtain ⟨x, hx⟩ := get_some hlt
  refine C7 (A3 (C8 (A3 (A2 ?_))))
  refine A1 rfl (I9 rfl E3 E8 (A0 rfl) (A0 rfl) hx (by first | omega | (simp only [D3, A9, szR] at *; omega))) ?_
  refine A1 rfl (N4 rfl (A0 rfl) G5 rfl) ?_
  refine B5 rfl ?_
  refine A4 (A3 (A2 ?_))
  refine A5 rfl ?_
  refine A5 rfl ?_
  refine A1 rfl (u9 rfl (A0 rfl) (A0 rfl)) ?_
  refine A4 ?_
  refine C4 (A0 rfl) ?_ ?_
  ·intro h15
   refine A3 (A2 ?_)
   refine A1 rfl (B7 rfl F5) ?_
   refine A4 ?_
   refine C5 ?_
   exact H5 rfl (C3 rfl (by first | exact congrArg AV.bool (by rw [hinv.2, drop_some hx, List.any_cons, show (k == x) = true from by have h9 := h15; simp at h9 ⊢; exact h9.symm]; rfl) | exact congrArg AV.bool (by rw [hinv.2, List.drop_eq_nil_of_le hge]; rfl)))
  intro h15
  refine C7 (A2 ?_)
  refine A1 rfl (G8 rfl (A0 rfl) B6 (by first | omega | (simp only [D3, A9, szR] at *; omega))) ?_
  refine A5 rfl ?_
  refine A4 ?_
  refine L4 i (i + 1) ?_ ?_ (K0 ⟨rfl, rfl, rfl, rfl, trivial⟩)
  ·exact ⟨by omega, by rw [hinv.2, drop_some hx, List.any_cons, show (k == x) = false from by have h9 := h15; simp at h9 ⊢; exact fun e => h9 e.symm]; rfl⟩
  omega
 intro h10
 have k10 := of_decide_eq_false h10; try simp only [A8] at k10
 have hge : l.length ≤ i := by omega
 refine G6 ?_
 refine A3 (A2 ?_)
 refine A1 rfl (B7 rfl F5) ?_
 refine A4 ?_
 refine C5 ?_
 exact H5 rfl (C3 rfl (by first | exact congrArg AV.bool (by rw [hinv.2, drop_some hx, List.any_cons, show (k == x) = true from by have h9 := h15; simp at h9 ⊢; exact h9.symm]; rfl) | exact congrArg AV.bool (by rw [hinv.2, List.drop_eq_nil_of_le hge]; rfl)))
theorem apart_spec (h : THeld) (rs : List Str) (ws : List TWrite) : FSpec Tryz.prog 178 [AV.agg h.cs, strs rs, AV.list 3 (ws.map TWrite.cs)] (AV.bool (apart h rs ws)) := by
 refine E5 Tryz.func178 rfl Tryz.ntmps178 rfl ?_
 refine U1 (t := 1) rfl fun hl1 => ?_
 try simp only [A8] at hl1
 refine U1 (t := 2) rfl fun hl2 => ?_
 try simp only [A8] at hl2
 refine A3 (A2 ?_)
 refine N8 rfl rfl rfl rfl (A0 rfl) ?_
 intro b3
 refine A1 rfl (B7 rfl F5) ?_
 refine A4 (A3 (A3 (A2 ?_)))
 refine A5 rfl ?_
 refine A1 rfl (G9 rfl E3 (A0 rfl)) ?_
 refine A1 rfl (C1 rfl B6) ?_
 refine A4 (C8 ?_)
 refine J1 [(2, _), (3, _), (11, _), (12, _)] _ (fun (i : Nat) => i ≤ rs.length ∧ (rs.all fun k => !hasK h.Writes k) = ((rs.drop i).all fun k => !hasK h.Writes k)) (fun (i : Nat) => []) (fun (i : Nat) => [(13, AV.int i)]) (fun (i : Nat) => rs.length - i) (0) ?_ (K0 ⟨rfl, rfl, rfl, rfl, rfl, trivial⟩) ?_
 ·exact ⟨Nat.zero_le _, rfl⟩
 intro i hinv
 refine A3 (A2 ?_)
 refine A1 rfl (J6 rfl (A0 rfl) (A0 rfl)) ?_
 refine A4 (A3 ?_)
 refine C4 (A0 rfl) ?_ ?_
 ·intro h14
  have k14 := of_decide_eq_true h14; try simp only [A8] at k14
  have hlt : i < rs.length := by omega
  obtain ⟨x, hx⟩ := get_some hlt
  refine C7 (A3 (C8 (A3 (A2 ?_))))
  refine A1 rfl (I9 rfl E3 E8 (A0 rfl) (A0 rfl) hx (by first | omega | (simp only [D3, A9, szR] at *; omega))) ?_
  refine A1 rfl (N4 rfl (A0 rfl) G5 rfl) ?_
  refine B5 rfl ?_
  refine A4 (A3 (A2 ?_))
  refine A1 rfl (B1 4 rfl F1 rfl K2 (A0 rfl) rfl) ?_
  refine A1 rfl (B0 0 rfl (A0 rfl) rfl L9 rfl) ?_
  refine A5 rfl ?_
  refine A1 rfl (E4 rfl Tryz.call214 rfl (AW1 _ _) (A7 (A0 rfl) (A7 (A0 rfl) C6))) ?_
  refine A4 ?_
  refine C4 (A0 rfl) ?_ ?_
  ·intro h20
   have hfin : apart h rs ws = false := by (unfold apart; rw [hinv.2, drop_some hx, List.all_cons, h20]; rfl)
   refine A3 (A2 ?_)
   refine A1 rfl (B7 rfl F5) ?_
   refine A4 ?_
   refine C5 ?_
   exact H5 rfl (C3 rfl (by exact congrArg AV.bool hfin.symm))
  intro h20
  refine C7 (A2 ?_)
  refine A1 rfl (G8 rfl (A0 rfl) B6 (by first | omega | (simp only [D3, A9, szR] at *; omega))) ?_
  refine A5 rfl ?_
  refine A4 ?_
  refine L4 i (i + 1) ?_ ?_ (K0 ⟨rfl, rfl, rfl, rfl, rfl, trivial⟩)
  ·exact ⟨by omega, by rw [hinv.2, drop_some hx, List.all_cons, h20]; rfl⟩
  omega
 intro h14
 have k14 := of_decide_eq_false h14; try simp only [A8] at k14
 have hge : rs.length ≤ i := by omega
 have hr : (rs.all fun k => !hasK h.Writes k) = true := by (rw [hinv.2, List.drop_eq_nil_of_le hge]; rfl)
 refine G6 ?_
 refine A3 (A3 (A2 ?_))
 refine A5 rfl ?_
 refine A1 rfl (G9 rfl G3 (A0 rfl)) ?_
 refine A1 rfl (C1 rfl B6) ?_
 refine A4 (C8 ?_)
 refine J1 [(3, _), (22, _), (23, _)] _ (fun (q : Nat) => q ≤ ws.length ∧ (ws.all fun w => !(hasK h.Writes w.Key || hasS h.Reads w.Key)) = ((ws.drop q).all fun w => !(hasK h.Writes w.Key || hasS h.Reads w.Key))) (fun (q : Nat) => []) (fun (q : Nat) => [(24, AV.int q)]) (fun (q : Nat) => ws.length - q) (0) ?_ (K0 ⟨rfl, rfl, rfl, rfl, trivial⟩) ?_
 ·exact ⟨Nat.zero_le _, rfl⟩
 intro q hinv
 refine A3 (A2 ?_)
 refine A1 rfl (J6 rfl (A0 rfl) (A0 rfl)) ?_
 refine A4 (A3 ?_)
 refine C4 (A0 rfl) ?_ ?_
 ·intro h25
  have k25 := of_decide_eq_true h25; try simp only [A8] at k25
  have hlt : q < ws.length := by omega
  obtain ⟨x, hx⟩ := get_some hlt
  refine C7 (A3 (C8 (A3 (A2 ?_))))
  refine A1 rfl (I9 rfl G3 I3 (A0 rfl) (A0 rfl) hx (by first | omega | (simp only [D3, A9, szR] at *; omega))) ?_
  refine A1 rfl (K6 rfl (A0 rfl) U5 I3) ?_
  refine F9 rfl rfl rfl rfl Tryz.zeroValue101 rfl ?_
  intro b10
  refine D6 0 rfl rfl rfl (A0 rfl) (A0 rfl) (E7 _) rfl I3 rfl ?_
  refine A4 (A3 (A2 ?_))
  refine A1 rfl (B1 4 rfl F1 rfl K2 (A0 rfl) rfl) ?_
  refine A1 rfl (B0 1 rfl (A0 rfl) rfl L9 rfl) ?_
  refine A1 rfl (B1 0 rfl J0 rfl E8 (A0 rfl) rfl) ?_
  refine A1 rfl (B0 0 rfl (A0 rfl) rfl G5 rfl) ?_
  refine A1 rfl (E4 rfl Tryz.call214 rfl (AW1 _ _) (A7 (A0 rfl) (A7 (A0 rfl) C6))) ?_
  refine A5 rfl ?_
  refine J5 rfl (fun hc => B1 3 rfl F1 rfl M7 (A0 rfl) rfl) ?_
  refine J5 rfl (fun hc => B0 1 rfl (A6 rfl hc) rfl P6 rfl) ?_
  refine J5 rfl (fun hc => B1 0 rfl J0 rfl E8 (A0 rfl) rfl) ?_
  refine J5 rfl (fun hc => B0 0 rfl (A6 rfl hc) rfl G5 rfl) ?_
  refine J5 rfl (fun hc => E4 rfl Tryz.call215 rfl (Aw8 _ _) (A7 (A6 rfl hc) (A7 (A6 rfl hc) C6))) ?_
  refine A1 rfl (T5 rfl (A0 rfl) (F6 rfl)) ?_
  refine A4 ?_
  refine C4 (A0 rfl) ?_ ?_
  ·intro h39
   have hfin : apart h rs ws = false := by (unfold apart; rw [hinv.2, drop_some hx, List.all_cons, h39]; simp)
   refine A3 (A2 ?_)
   refine A1 rfl (B7 rfl F5) ?_
   refine A4 ?_
   refine C5 ?_
   exact H5 rfl (C3 rfl (by exact congrArg AV.bool hfin.symm))
  intro h39
  refine C7 (A2 ?_)
  refine A1 rfl (G8 rfl (A0 rfl) B6 (by first | omega | (simp only [D3, A9, szR] at *; omega))) ?_
  refine A5 rfl ?_
  refine A4 ?_
  refine L4 q (q + 1) ?_ ?_ (U3 1 ⟨rfl, rfl, rfl, rfl, trivial⟩)
  ·exact ⟨by omega, by rw [hinv.2, drop_some hx, List.all_cons, h39]; rfl⟩
  omega
 intro h25
 have k25 := of_decide_eq_false h25; try simp only [A8] at k25
 have hge : ws.length ≤ q := by omega
 have hfin : apart h rs ws = true := by (unfold apart; rw [hr, hinv.2, List.drop_eq_nil_of_le hge]; rfl)
 refine G6 ?_
 refine A3 (A2 ?_)
 refine A1 rfl (B7 rfl F5) ?_
 refine A4 ?_
 refine C5 ?_
 exact H5 rfl (C3 rfl (by exact congrArg AV.bool hfin.symm))
theorem Aq4 (l : List THeld) (q : Nat) : (hWs (l.take q)).length ≤ (hWs l).length := by
  have h := AV6 (l.take q) (l.drop q)
  rw [List.take_append_drop] at h
  rw [h, I5]; omega
theorem AW2 (s : TState) (ws : List TWrite) (hs : s.size ≤ 1048576) (hb : s.Cells.length + ws.length + (hWs s.Held).length ≤ 800000) : FSpec Tryz.prog 179 [AV.agg s.cs, AV.list 3 (ws.map TWrite.cs)] (AV.bool (room s.Cells (ws ++ hWs s.Held))) := by
 obtain ⟨hs1, hs2, hs3, hs4, hs5⟩ := V8 hs
 obtain ⟨p, hp⟩ : ∃ p : TWrite → Bool, p = fun w => !fullC s.Cells w.Key := ⟨_, rfl⟩
 obtain ⟨al, hal⟩ : ∃ al, ws ++ hWs s.Held = al := ⟨_, rfl⟩
 have hall : al.length ≤ 800000 - s.Cells.length := by rw [← hal, I5]; omega
 rw [hal]
 refine E5 Tryz.func179 rfl Tryz.ntmps179 rfl ?_
 refine A3 (A2 ?_)
 refine N8 rfl rfl rfl rfl (A0 rfl) ?_
 intro b2
 refine A1 rfl (B7 rfl F5) ?_
 refine A4 (A3 (A2 ?_))
 refine j5 9 1 rfl rfl rfl rfl O7 ?_
 intro v5
 refine A4 (A3 (A3 (A2 ?_)))
 refine A1 rfl (B1 1 rfl C0 rfl N9 (A0 rfl) rfl) ?_
 refine A1 rfl (B0 1 rfl (A0 rfl) rfl Q1 rfl) ?_
 refine A1 rfl (G9 rfl E9 (A0 rfl)) ?_
 refine A1 rfl (C1 rfl B6) ?_
 refine A4 (C8 ?_)
 refine Q0 [(1, _), (2, _), (4, _), (15, _), (16, _)] _ (fun (i : Nat) (v : Value) => i ≤ s.Cells.length) (fun (i : Nat) (v : Value) => [.arr v 9 1 ((putAllS (cKeys (s.Cells.take i)) []).map fun s => [AV.str s])]) (fun (i : Nat) (v : Value) => [(5, AV.is v), (17, AV.int i)]) (fun (i : Nat) (v : Value) => s.Cells.length - i) (0) (v5) ?_ (P8 (by rfl) ⟨rfl, rfl, rfl, rfl, rfl, rfl, rfl, trivial⟩) ?_
 ·exact Nat.zero_le _
 intro i v hinv
 refine A3 (A2 ?_)
 refine A1 rfl (J6 rfl (A0 rfl) (A0 rfl)) ?_
 refine A4 (A3 ?_)
 refine C4 (A0 rfl) ?_ ?_
 ·intro h18
  have k18 := of_decide_eq_true h18; try simp only [A8] at k18
  have hlt : i < s.Cells.length := by omega
  obtain ⟨c, hx⟩ := get_some hlt
  have hpl := AE2 (cKeys (s.Cells.take i)) []
  unfold cKeys at hpl
  simp only [A8, F0, L6] at hpl
  refine C7 (A3 (C8 (A3 (A2 ?_))))
  refine A1 rfl (I9 rfl E9 G0 (A0 rfl) (A0 rfl) hx (by first | omega | (simp only [D3, A9, szR] at *; omega))) ?_
  refine A1 rfl (K6 rfl (A0 rfl) U6 G0) ?_
  refine F9 rfl rfl rfl rfl Tryz.zeroValue125 rfl ?_
  intro b7
  refine D6 0 rfl rfl rfl (A0 rfl) (A0 rfl) (E7 _) rfl G0 rfl ?_
  refine A4 (A2 ?_)
  refine A5 rfl ?_
  refine A1 rfl (B1 0 rfl G7 rfl E8 (A0 rfl) rfl) ?_
  refine A1 rfl (B0 0 rfl (A0 rfl) rfl G5 rfl) ?_
  refine J7 [1] rfl rfl rfl rfl Tryz.call169 rfl (AI3 v (putAllS (cKeys (s.Cells.take i)) []) c.Key (t7 List.Pairwise.nil).1 (by unfold cKeys; omega)) (A7 (A0 rfl) (A7 (A0 rfl) C6)) rfl ?_
  intro x24 ok24
  refine B5 rfl ?_
  refine A4 (A2 ?_)
  refine A1 rfl (G8 rfl (A0 rfl) B6 (by first | omega | (simp only [D3, A9, szR] at *; omega))) ?_
  refine A5 rfl ?_
  refine A4 ?_
  refine O4 i v (i + 1) (x24) ?_ ?_ (Le.trans (H4 [1, 0] rfl) (L7 1 (by exact congrArg (fun z => Own.arr _ 9 1 (List.map (fun s => [AV.str s]) z) :: _) (by unfold cKeys; rw [List.take_add_one, hx, List.map_append]; exact (AL3 _ _ _).symm)) ⟨rfl, rfl, rfl, rfl, rfl, rfl, rfl, trivial⟩))
  ·omega
  omega
 intro h18
 have k18 := of_decide_eq_false h18; try simp only [A8] at k18
 have hge : s.Cells.length ≤ i := by omega
 rw [List.take_of_length_le hge]
 refine G6 ?_
 refine A3 (A2 ?_)
 refine R7 rfl rfl rfl rfl G3 I3 ?_
 intro v26
 refine A5 rfl ?_
 refine M0 (by' := 40) 0 rfl rfl rfl rfl G3 Tryz.type101 rfl rfl rfl rfl rfl rfl (A0 rfl) (A0 rfl) rfl (by simp only [L6, A8]; omega) ?_
 intro v28_1
 refine B5 rfl ?_
 refine A4 (A3 (A3 (A2 ?_)))
 refine A1 rfl (B1 2 rfl C0 rfl G2 (A0 rfl) rfl) ?_
 refine A1 rfl (B0 2 rfl (A0 rfl) rfl L3 rfl) ?_
 refine A1 rfl (G9 rfl E1 (A0 rfl)) ?_
 refine A1 rfl (C1 rfl B6) ?_
 refine A4 (C8 ?_)
 refine X0 [(2, _), (4, _), (5, _), (30, _), (31, _)] _ (fun (q : Nat) (u : Value) (a : List TWrite) => q ≤ s.Held.length ∧ a = ws ++ hWs (s.Held.take q)) (fun (q : Nat) (u : Value) (a : List TWrite) => [.arr u 101 3 (a.map TWrite.cs)]) (fun (q : Nat) (u : Value) (a : List TWrite) => [(8, AV.is u), (32, AV.int q)]) (fun (q : Nat) (u : Value) (a : List TWrite) => s.Held.length - q) (0) (v28_1) (ws) ?_ (P8 (by rfl) ⟨rfl, rfl, rfl, rfl, rfl, rfl, rfl, trivial⟩) ?_
 ·exact ⟨Nat.zero_le _, by rw [List.take_zero]; exact (List.append_nil _).symm⟩
 intro q u a hinv
 refine A3 (A2 ?_)
 refine A1 rfl (J6 rfl (A0 rfl) (A0 rfl)) ?_
 refine A4 (A3 ?_)
 refine C4 (A0 rfl) ?_ ?_
 ·intro h33
  have k33 := of_decide_eq_true h33; try simp only [A8] at k33
  have hlt : q < s.Held.length := by omega
  obtain ⟨h, hx⟩ := get_some hlt
  obtain ⟨g1, g2, g3, g4, g5⟩ := W9 hs2 hx
  have hwt := Aq4 s.Held q
  have hal9 : a.length ≤ 800000 := by (rw [hinv.2, I5]; omega)
  refine C7 (A3 (C8 (A3 (A2 ?_))))
  refine A1 rfl (I9 rfl E1 D4 (A0 rfl) (A0 rfl) hx (by first | omega | (simp only [D3, A9, szR] at *; omega))) ?_
  refine A1 rfl (K6 rfl (A0 rfl) I6 D4) ?_
  refine F9 rfl rfl rfl rfl Tryz.zeroValue141 rfl ?_
  intro b10
  refine D6 0 rfl rfl rfl (A0 rfl) (A0 rfl) (E7 _) rfl D4 rfl ?_
  refine A4 (A2 ?_)
  refine A5 rfl ?_
  refine A1 rfl (B1 4 rfl F1 rfl K2 (A0 rfl) rfl) ?_
  refine A1 rfl (B0 0 rfl (A0 rfl) rfl L9 rfl) ?_
  refine M0 (by' := 40) 1 rfl rfl rfl rfl G3 Tryz.type101 rfl rfl rfl rfl rfl rfl (A0 rfl) (A0 rfl) rfl (by simp only [I5, A8]; omega) ?_
  intro v39_2
  refine B5 rfl ?_
  refine A4 (A2 ?_)
  refine A1 rfl (G8 rfl (A0 rfl) B6 (by first | omega | (simp only [D3, A9, szR] at *; omega))) ?_
  refine A5 rfl ?_
  refine A4 ?_
  refine W0 q u a (q + 1) (v39_2) (a ++ h.Writes) ?_ ?_ (Le.trans (H4 [0, 0] rfl) (L7 1 (by (rw [List.map_append]; rfl)) ⟨rfl, rfl, rfl, rfl, rfl, rfl, rfl, trivial⟩))
  ·exact ⟨by omega, by rw [hinv.2, Al9 hx, List.append_assoc]⟩
  omega
 intro h33
 have k33 := of_decide_eq_false h33; try simp only [A8] at k33
 have hge : s.Held.length ≤ q := by omega
 have ha9 : a = al := by (rw [hinv.2, List.take_of_length_le hge, hal])
 subst ha9
 refine G6 ?_
 refine A3 (A3 (A2 ?_))
 refine A5 rfl ?_
 refine A1 rfl (W1 0 rfl G3 (A0 rfl) rfl) ?_
 refine A1 rfl (C1 rfl B6) ?_
 refine A4 (C8 ?_)
 refine AWP.le (H4 [1] rfl) ?_
 refine X0 [(2, _), (41, _), (42, _)] _ (fun (r : Nat) (v2 : Value) (ks : List Str) => r ≤ a.length ∧ a.all p = (a.drop r).all p ∧ ks = putAllS (cKeys s.Cells ++ wKeys (a.take r)) []) (fun (r : Nat) (v2 : Value) (ks : List Str) => [.arr v2 9 1 (ks.map fun s => [AV.str s])]) (fun (r : Nat) (v2 : Value) (ks : List Str) => [(5, AV.is v2), (43, AV.int r)]) (fun (r : Nat) (v2 : Value) (ks : List Str) => a.length - r) (0) (v) (putAllS (cKeys s.Cells) []) ?_ (P8 (by rfl) ⟨rfl, rfl, rfl, rfl, rfl, trivial⟩) ?_
 ·exact ⟨Nat.zero_le _, rfl, by rw [List.take_zero]; exact congrArg (fun z => putAllS z []) (List.append_nil _).symm⟩
 intro r v2 ks hinv
 refine A3 (A2 ?_)
 refine A1 rfl (J6 rfl (A0 rfl) (A0 rfl)) ?_
 refine A4 (A3 ?_)
 refine C4 (A0 rfl) ?_ ?_
 ·intro h44
  have k44 := of_decide_eq_true h44; try simp only [A8] at k44
  have hlt : r < a.length := by omega
  obtain ⟨w, hx⟩ := get_some hlt
  obtain ⟨c, hc0⟩ := at_some s.Cells w.Key
  have hfu := fullC_at (l := s.Cells) (k := w.Key) (c := c) (fun h9 => (hc0 h9).2)
  have hpl := AE2 (cKeys s.Cells ++ wKeys (a.take r)) []
  unfold cKeys wKeys at hpl
  simp only [I5, A8, F0, L6] at hpl
  refine C7 (A3 (C8 (A3 (A2 ?_))))
  refine A1 rfl (W5 1 rfl G3 I3 (A0 rfl) rfl (A0 rfl) (by omega) (by try simp only [A8]; omega)) ?_
  refine A1 rfl (d7 1 rfl (A0 rfl) rfl U5 I3 (by rw [Int.toNat_natCast, List.getElem?_map, hx]; rfl) (by decide)) ?_
  refine F9 rfl rfl rfl rfl Tryz.zeroValue101 rfl ?_
  intro b12
  refine D6 0 rfl rfl rfl (A0 rfl) (A0 rfl) (E7 _) rfl I3 rfl ?_
  refine A4 (A3 (A2 ?_))
  refine A5 rfl ?_
  refine A1 rfl (B1 0 rfl J0 rfl E8 (A0 rfl) rfl) ?_
  refine A1 rfl (B0 0 rfl (A0 rfl) rfl G5 rfl) ?_
  refine J7 [1] rfl rfl rfl rfl Tryz.call169 rfl (AI3 v2 ks w.Key (by rw [hinv.2.2]; exact (t7 List.Pairwise.nil).1) (by rw [hinv.2.2]; unfold cKeys wKeys; omega)) (A7 (A0 rfl) (A7 (A0 rfl) C6)) rfl ?_
  intro x50 ok50
  refine B5 rfl ?_
  refine A4 (A3 (A2 ?_))
  refine A1 rfl (B1 1 rfl C0 rfl N9 (A0 rfl) rfl) ?_
  refine A1 rfl (B0 3 rfl (A0 rfl) rfl Q1 rfl) ?_
  refine A1 rfl (B1 0 rfl J0 rfl E8 (A0 rfl) rfl) ?_
  refine A1 rfl (B0 1 rfl (A0 rfl) rfl G5 rfl) ?_
  refine A1 rfl (E4 rfl Tryz.call180 rfl (Ae1 _ _) (A7 (A0 rfl) (A7 (A0 rfl) C6))) ?_
  refine B5 rfl ?_
  refine A4 (A3 (A2 ?_))
  refine A5 rfl ?_
  refine A1 rfl (Z9 rfl (A0 rfl) B6) ?_
  refine A5 rfl ?_
  refine C9 rfl (fun hc => B1 1 rfl C0 rfl N9 (A0 rfl) rfl) ?_
  refine C9 rfl (fun hc => B0 3 rfl (A6 rfl hc) rfl Q1 rfl) ?_
  refine C9 rfl (fun hc => C1 rfl (A0 rfl)) ?_
  refine C9 rfl (fun hc => i6 rfl E9 G0 (A6 rfl hc) (A6 rfl hc) (by have h9 := of_decide_eq_true hc; obtain ⟨⟨p9, e1, e2⟩, _⟩ := hc0 (by omega); have := (List.getElem?_eq_some_iff.1 e2).1; omega) (by have h9 := of_decide_eq_true hc; obtain ⟨⟨p9, e1, e2⟩, _⟩ := hc0 (by omega); rw [e1, Int.toNat_natCast, List.getElem?_map, e2]; rfl)) ?_
  refine C9 rfl (fun hc => V1 rfl G7 rfl P0 (A6 rfl hc) rfl) ?_
  refine C9 rfl (fun hc => N4 rfl (A6 rfl hc) R8 rfl) ?_
  refine C9 rfl (fun hc => G9 rfl K1 (A6 rfl hc)) ?_
  refine C9 rfl (fun hc => Z9 rfl (A6 rfl hc) B6) ?_
  refine A1 rfl (H6 rfl (A0 rfl) (F6 rfl)) ?_
  refine A4 ?_
  refine C4 (A0 rfl) ?_ ?_
  ·intro h67
   have hpw : p w = false := by (rw [hp]; simp only [Bool.not_eq_false']; rw [hfu]; rw [A8] at h67; exact h67)
   have hro : room s.Cells a = false := by (unfold room; rw [show (a.all fun w => !fullC s.Cells w.Key) = false from by rw [← hp, hinv.2.1, drop_some hx, List.all_cons, hpw]; rfl]; rfl)
   refine A3 (A2 ?_)
   refine A1 rfl (B7 rfl F5) ?_
   refine A4 ?_
   refine C5 ?_
   exact H5 rfl (C3 rfl (by first | exact congrArg AV.bool hro.symm | exact congrArg AV.bool (by rw [hro]; simp only [A8]; rw [decide_eq_decide]; omega)))
  intro h67
  have hpw : p w = true := by (rw [hp]; simp only [Bool.not_eq_true']; rw [hfu]; rw [A8] at h67; exact h67)
  refine C7 (A2 ?_)
  refine A1 rfl (G8 rfl (A0 rfl) B6 (by first | omega | (simp only [D3, A9, szR] at *; omega))) ?_
  refine A5 rfl ?_
  refine A4 ?_
  refine W0 r v2 ks (r + 1) (x50) (putS ks w.Key) ?_ ?_ (Le.trans (H4 [1, 0] rfl) (L7 1 (by rfl) ⟨rfl, rfl, rfl, rfl, rfl, trivial⟩))
  ·exact ⟨by omega, by rw [hinv.2.1, drop_some hx, List.all_cons, hpw]; rfl, by rw [hinv.2.2]; unfold wKeys; rw [List.take_add_one, hx, List.map_append, ← List.append_assoc]; exact (AL3 _ _ _).symm⟩
  omega
 intro h44
 have k44 := of_decide_eq_false h44; try simp only [A8] at k44
 have hge : a.length ≤ r := by omega
 have hks := hinv.2.2
 rw [List.take_of_length_le hge] at hks
 have hro : room s.Cells a = decide (ks.length ≤ 24) := by (unfold room roomKs; rw [← hp, hinv.2.1, List.drop_eq_nil_of_le hge, Az2, ← hks]; rfl)
 refine G6 ?_
 refine A3 (A2 ?_)
 refine A5 rfl ?_
 refine A1 rfl (W1 0 rfl E3 (A0 rfl) rfl) ?_
 refine A1 rfl (U7 rfl (A0 rfl) B6) ?_
 refine B5 rfl ?_
 refine A4 ?_
 refine C5 ?_
 exact H5 rfl (C3 rfl (by first | exact congrArg AV.bool hro.symm | exact congrArg AV.bool (by rw [hro]; simp only [A8]; rw [decide_eq_decide]; omega)))
theorem Aw9 (s : TState) (ws : List TWrite) (hs : s.size ≤ 400000) (hw : sizeL TWrite.size ws ≤ 400000) : FSpec Tryz.prog 179 [AV.agg s.cs, AV.list 3 (ws.map TWrite.cs)] (AV.bool (room s.Cells (ws ++ hWs s.Held))) := by
  have hsum : sizeL TCell.size s.Cells + sizeL THeld.size s.Held ≤ 400000 := by have h9 : s.size = sizeL TCell.size s.Cells + sizeL THeld.size s.Held + s.Told.length := rfl; omega
  have hcl := O3 (f := TCell.size) (l := s.Cells)
  have hwl := O3 (f := TWrite.size) (l := ws)
  have hhl := AZ6 (l := s.Held)
  exact AW2 s ws (by omega) (by omega)
theorem Af1 : ∀ {l : List THeld}, (∀ h ∈ l, goodRec (hRec h) = true) → (hWs l).length ≤ 400 * l.length
  | [], _ => Nat.le_refl _
  | h :: l, hg => by
    have ih := Af1 fun k hk => hg k (List.mem_cons_of_mem h hk)
    have h1 := Ah6 (hg h List.mem_cons_self)
    have h4 := O3 (f := TWrite.size) (l := h.Writes)
    have h2 : (hRec h).size = sizeL (fun x => x.length) h.Reads + sizeL TWrite.size h.Writes := rfl
    rw [AB4, I5, J3]; omega
theorem Ax0 {s : TState} (h : allB s.Held.length (heldAt s) = true) : ∀ k ∈ s.Held, goodRec (hRec k) = true := fun k hk => by
  obtain ⟨i, hi⟩ := List.getElem?_of_mem hk
  have h9 := k0.1 h i (List.getElem?_eq_some_iff.1 hi).1
  unfold heldAt at h9
  rw [hi] at h9
  simp only [Bool.and_eq_true] at h9
  exact h9.1.1.1.1
theorem AM7 (s : TState) (n : Int) (hlen : s.Held.length ≤ 1048576) : FSpec Tryz.prog 128 [AV.agg s.cs, AV.int n] (AV.tup [AV.agg (heldFO s.Held n).1.cs, AV.bool (heldFO s.Held n).2]) := by
 obtain ⟨l, hl⟩ : ∃ l, s.Held = l := ⟨_, rfl⟩
 have hcs : s.cs = [AV.int s.Floor, AV.list 2 (s.Cells.map TCell.cs), AV.list 5 (l.map THeld.cs), AV.list 3 (s.Told.map TTold.cs)] := by rw [← hl]; rfl
 rw [hl] at hlen
 rw [hl, hcs]
 refine E5 Tryz.func128 rfl Tryz.ntmps128 rfl ?_
 refine A3 (A2 ?_)
 refine N8 rfl rfl rfl rfl (A0 rfl) ?_
 intro b2
 refine F9 rfl rfl rfl rfl Tryz.zeroValue141 rfl ?_
 intro b4
 refine A1 rfl (B7 rfl F5) ?_
 refine A4 (A3 (A3 (A2 ?_)))
 refine A1 rfl (B1 2 rfl C0 rfl G2 (A0 rfl) rfl) ?_
 refine A1 rfl (B0 1 rfl (A0 rfl) rfl L3 rfl) ?_
 refine A1 rfl (G9 rfl E1 (A0 rfl)) ?_
 refine A1 rfl (C1 rfl B6) ?_
 refine A4 (C8 ?_)
 refine J1 [(1, _), (4, _), (9, _), (10, _)] _ (fun (i : Nat) => i ≤ l.length ∧ ∀ j y, j < i → l[j]? = some y → (y.Txn == n) = false) (fun (i : Nat) => []) (fun (i : Nat) => [(11, AV.int i)]) (fun (i : Nat) => l.length - i) (0) ?_ (K0 ⟨rfl, rfl, rfl, rfl, rfl, trivial⟩) ?_
 ·exact ⟨Nat.zero_le _, fun j y hj => by omega⟩
 intro i hinv
 refine A3 (A2 ?_)
 refine A1 rfl (J6 rfl (A0 rfl) (A0 rfl)) ?_
 refine A4 (A3 ?_)
 refine C4 (A0 rfl) ?_ ?_
 ·intro h12
  have k12 := of_decide_eq_true h12; try simp only [A8] at k12
  have hlt : i < l.length := by omega
  obtain ⟨x, hx⟩ := get_some hlt
  refine C7 (A3 (C8 (A3 (A2 ?_))))
  refine A1 rfl (I9 rfl E1 D4 (A0 rfl) (A0 rfl) hx (by first | omega | (simp only [D3, A9, szR] at *; omega))) ?_
  refine A1 rfl (K6 rfl (A0 rfl) I6 D4) ?_
  refine F9 rfl rfl rfl rfl Tryz.zeroValue141 rfl ?_
  intro b7
  refine D6 0 rfl rfl rfl (A0 rfl) (A0 rfl) (E7 _) rfl D4 rfl ?_
  refine A4 (A3 (A2 ?_))
  refine A1 rfl (B1 0 rfl F1 rfl B3 (A0 rfl) rfl) ?_
  refine A1 rfl (B0 0 rfl (A0 rfl) rfl B9 rfl) ?_
  refine A5 rfl ?_
  refine A1 rfl (P4 rfl (A0 rfl) (A0 rfl)) ?_
  refine A4 ?_
  refine C4 (A0 rfl) ?_ ?_
  ·intro h18
   have k18 := O9 h18; try simp only [A8] at k18
   have he : heldFO l n = (x, true) := by (unfold heldFO findH; rw [AA2 hx h18 hinv.2])
   rw [he]
   refine A3 (A2 ?_)
   refine A1 rfl (F7 0 rfl (A0 rfl) rfl I6 D4 rfl) ?_
   refine D6 1 rfl rfl rfl (A0 rfl) (A0 rfl) (E7 _) rfl D4 rfl ?_
   refine A1 rfl (B7 rfl F5) ?_
   refine A4 ?_
   refine C5 ?_
   exact Z7 rfl (by decide) (F4 (L1 (ys := _) 1 rfl rfl I6 D4 rfl) (F4 (C3 rfl (by rfl)) M5))
  intro h18
  have k18 := O8 h18; try simp only [A8] at k18
  refine C7 (A2 ?_)
  refine A1 rfl (G8 rfl (A0 rfl) B6 (by first | omega | (simp only [D3, A9, szR] at *; omega))) ?_
  refine A5 rfl ?_
  refine A4 ?_
  refine L4 i (i + 1) ?_ ?_ (U3 1 ⟨rfl, rfl, rfl, rfl, rfl, trivial⟩)
  ·exact ⟨by omega, fun j y hj hy => if hji : j < i then hinv.2 j y hji hy else (by have e : j = i := (by omega); subst e; rw [hx] at hy; injection hy with hy; subst hy; exact h18)⟩
  omega
 intro h12
 have k12 := of_decide_eq_false h12; try simp only [A8] at k12
 have hge : l.length ≤ i := by omega
 have he : heldFO l n = (zHeld, false) := by (unfold heldFO findH; rw [AT3 fun j y hy => hinv.2 j y (Nat.lt_of_lt_of_le (List.getElem?_eq_some_iff.1 hy).1 hge) hy])
 rw [he]
 refine G6 ?_
 refine A3 (A2 ?_)
 refine A1 rfl (O0 (places := #[(0, 1), (1, 1), (2, 1), (3, 1), (4, 1)]) rfl F1 Tryz.zeroValue141 (fun w => by kernel_rfl) rfl H7 rfl) ?_
 refine D6 0 rfl rfl rfl (A0 rfl) (A0 rfl) (E7 _) rfl D4 rfl ?_
 refine A1 rfl (B7 rfl F5) ?_
 refine A4 ?_
 refine C5 ?_
 refine AQ7 0 3 1 rfl rfl ?_
 refine AQ7 0 4 3 rfl rfl ?_
 exact Z7 rfl (by decide) (F4 (L1 (ys := _) 0 rfl rfl I6 D4 rfl) (F4 (C3 rfl (by rfl)) M5))
theorem AM8 (s : TState) (n : Int) (hlen : s.Told.length ≤ 1048576) : FSpec Tryz.prog 200 [AV.agg s.cs, AV.int n] (AV.tup [AV.agg (toldFO s.Told n).1.cs, AV.bool (toldFO s.Told n).2]) := by
 obtain ⟨l, hl⟩ : ∃ l, s.Told = l := ⟨_, rfl⟩
 have hcs : s.cs = [AV.int s.Floor, AV.list 2 (s.Cells.map TCell.cs), AV.list 5 (s.Held.map THeld.cs), AV.list 3 (l.map TTold.cs)] := by rw [← hl]; rfl
 rw [hl] at hlen
 rw [hl, hcs]
 refine E5 Tryz.func200 rfl Tryz.ntmps200 rfl ?_
 refine A3 (A2 ?_)
 refine N8 rfl rfl rfl rfl (A0 rfl) ?_
 intro b2
 refine F9 rfl rfl rfl rfl Tryz.zeroValue144 rfl ?_
 intro b4
 refine A1 rfl (B7 rfl F5) ?_
 refine A4 (A3 (A3 (A2 ?_)))
 refine A1 rfl (B1 3 rfl C0 rfl N2 (A0 rfl) rfl) ?_
 refine A1 rfl (B0 1 rfl (A0 rfl) rfl T7 rfl) ?_
 refine A1 rfl (G9 rfl I0 (A0 rfl)) ?_
 refine A1 rfl (C1 rfl B6) ?_
 refine A4 (C8 ?_)
 refine J1 [(1, _), (4, _), (9, _), (10, _)] _ (fun (i : Nat) => i ≤ l.length ∧ ∀ j y, j < i → l[j]? = some y → (y.Txn == n) = false) (fun (i : Nat) => []) (fun (i : Nat) => [(11, AV.int i)]) (fun (i : Nat) => l.length - i) (0) ?_ (K0 ⟨rfl, rfl, rfl, rfl, rfl, trivial⟩) ?_
 ·exact ⟨Nat.zero_le _, fun j y hj => by omega⟩
 intro i hinv
 refine A3 (A2 ?_)
 refine A1 rfl (J6 rfl (A0 rfl) (A0 rfl)) ?_
 refine A4 (A3 ?_)
 refine C4 (A0 rfl) ?_ ?_
 ·intro h12
  have k12 := of_decide_eq_true h12; try simp only [A8] at k12
  have hlt : i < l.length := by omega
  obtain ⟨x, hx⟩ := get_some hlt
  refine C7 (A3 (C8 (A3 (A2 ?_))))
  refine A1 rfl (I9 rfl I0 K8 (A0 rfl) (A0 rfl) hx (by first | omega | (simp only [D3, A9, szR] at *; omega))) ?_
  refine A1 rfl (K6 rfl (A0 rfl) Z4 K8) ?_
  refine F9 rfl rfl rfl rfl Tryz.zeroValue144 rfl ?_
  intro b7
  refine D6 0 rfl rfl rfl (A0 rfl) (A0 rfl) (E7 _) rfl K8 rfl ?_
  refine A4 (A3 (A2 ?_))
  refine A1 rfl (B1 0 rfl K9 rfl B3 (A0 rfl) rfl) ?_
  refine A1 rfl (B0 0 rfl (A0 rfl) rfl B9 rfl) ?_
  refine A5 rfl ?_
  refine A1 rfl (P4 rfl (A0 rfl) (A0 rfl)) ?_
  refine A4 ?_
  refine C4 (A0 rfl) ?_ ?_
  ·intro h18
   have k18 := O9 h18; try simp only [A8] at k18
   have he : toldFO l n = (x, true) := by (unfold toldFO findT; rw [AA2 hx h18 hinv.2])
   rw [he]
   refine A3 (A2 ?_)
   refine A1 rfl (F7 0 rfl (A0 rfl) rfl Z4 K8 rfl) ?_
   refine D6 1 rfl rfl rfl (A0 rfl) (A0 rfl) (E7 _) rfl K8 rfl ?_
   refine A1 rfl (B7 rfl F5) ?_
   refine A4 ?_
   refine C5 ?_
   exact Z7 rfl (by decide) (F4 (L1 (ys := _) 1 rfl rfl Z4 K8 rfl) (F4 (C3 rfl (by rfl)) M5))
  intro h18
  have k18 := O8 h18; try simp only [A8] at k18
  refine C7 (A2 ?_)
  refine A1 rfl (G8 rfl (A0 rfl) B6 (by first | omega | (simp only [D3, A9, szR] at *; omega))) ?_
  refine A5 rfl ?_
  refine A4 ?_
  refine L4 i (i + 1) ?_ ?_ (U3 1 ⟨rfl, rfl, rfl, rfl, rfl, trivial⟩)
  ·exact ⟨by omega, fun j y hj hy => if hji : j < i then hinv.2 j y hji hy else (by have e : j = i := (by omega); subst e; rw [hx] at hy; injection hy with hy; subst hy; exact h18)⟩
  omega
 intro h12
 have k12 := of_decide_eq_false h12; try simp only [A8] at k12
 have hge : l.length ≤ i := by omega
 have he : toldFO l n = (zTold, false) := by (unfold toldFO findT; rw [AT3 fun j y hy => hinv.2 j y (Nat.lt_of_lt_of_le (List.getElem?_eq_some_iff.1 hy).1 hge) hy])
 rw [he]
 refine G6 ?_
 refine A3 (A2 ?_)
 refine A1 rfl (O0 (places := #[(0, 1), (1, 1), (2, 1)]) rfl K9 Tryz.zeroValue144 (fun w => by kernel_rfl) rfl H7 rfl) ?_
 refine D6 0 rfl rfl rfl (A0 rfl) (A0 rfl) (E7 _) rfl K8 rfl ?_
 refine A1 rfl (B7 rfl F5) ?_
 refine A4 ?_
 refine C5 ?_
 exact Z7 rfl (by decide) (F4 (L1 (ys := _) 0 rfl rfl Z4 K8 rfl) (F4 (C3 rfl (by rfl)) M5))
theorem Ah8 (s : TState) (ho : CellsOk s.Cells) (hcl : s.Cells.length ≤ 400000) (hs : s.size ≤ 1048576) : FSpec Tryz.prog 126 [AV.agg s.cs] (AV.bool (areHeld s)) := by
 obtain ⟨hs1, hs2, hs3, hs4, hs5⟩ := V8 hs
 refine E5 Tryz.func126 rfl Tryz.ntmps126 rfl ?_
 refine A3 (A2 ?_)
 refine N8 rfl rfl rfl rfl (A0 rfl) ?_
 intro b1
 refine A1 rfl (B7 rfl F5) ?_
 refine A4 (A3 (A3 (A2 ?_)))
 refine A1 rfl (B1 2 rfl C0 rfl G2 (A0 rfl) rfl) ?_
 refine A1 rfl (B0 0 rfl (A0 rfl) rfl L3 rfl) ?_
 refine A1 rfl (G9 rfl E1 (A0 rfl)) ?_
 refine A1 rfl (C1 rfl B6) ?_
 refine A4 (C8 ?_)
 refine J1 [(1, _), (10, _), (11, _)] _ (fun (i : Nat) => i ≤ s.Held.length ∧ ∀ j, j < i → heldAt s j = true) (fun (i : Nat) => []) (fun (i : Nat) => [(12, AV.int i)]) (fun (i : Nat) => s.Held.length - i) (0) ?_ (K0 ⟨rfl, rfl, rfl, rfl, trivial⟩) ?_
 ·exact ⟨Nat.zero_le _, fun j hj => by omega⟩
 intro i hinv
 refine A3 (A2 ?_)
 refine A1 rfl (J6 rfl (A0 rfl) (A0 rfl)) ?_
 refine A4 (A3 ?_)
 refine C4 (A0 rfl) ?_ ?_
 ·intro h13
  have k13 := of_decide_eq_true h13; try simp only [A8] at k13
  have hlt : i < s.Held.length := by omega
  obtain ⟨h, hx⟩ := get_some hlt
  obtain ⟨y, hy⟩ := get_some (show i - 1 < s.Held.length by omega)
  obtain ⟨g1, g2, g3, g4, g5⟩ := W9 hs2 hx
  have hinv0 := hinv
  refine C7 (A3 (C8 (A3 (A2 ?_))))
  refine A5 rfl ?_
  refine A1 rfl (I9 rfl E1 D4 (A0 rfl) (A0 rfl) hx (by first | omega | (simp only [D3, A9, szR] at *; omega))) ?_
  refine A1 rfl (K6 rfl (A0 rfl) I6 D4) ?_
  refine F9 rfl rfl rfl rfl Tryz.zeroValue141 rfl ?_
  intro b4
  refine B5 rfl ?_
  refine D6 0 rfl rfl rfl (A0 rfl) (A0 rfl) (E7 _) rfl D4 rfl ?_
  refine A4 (A3 (A3 ?_))
  refine I8 (by kernel_rfl) (by kernel_rfl) rfl ?_
  refine B2 rfl rfl (F7 0 rfl (A0 rfl) rfl I6 D4 rfl) ?_
  refine B2 rfl rfl (E4 rfl Tryz.call177 rfl (Ah7 _) (A7 (A0 rfl) C6)) ?_
  refine B2 rfl rfl (E4 rfl Tryz.call106 rfl (AQ3 _ (by first | assumption | omega)) (A7 (A0 rfl) C6)) ?_
  refine B2 rfl rfl (M2 rfl (A0 rfl)) ?_
  refine B2 rfl rfl (C1 rfl (A0 rfl)) ?_
  refine D2 rfl (I2 rfl rfl rfl) (fun hc => B1 1 rfl F1 rfl B3 (A0 rfl) rfl) ?_
  refine D2 rfl (I2 rfl rfl rfl) (fun hc => B0 0 rfl (A6 rfl hc) rfl B9 rfl) ?_
  refine D2 rfl (I2 rfl rfl rfl) (fun hc => B1 0 rfl C0 rfl B3 (A0 rfl) rfl) ?_
  refine D2 rfl (I2 rfl rfl rfl) (fun hc => B0 1 rfl (A6 rfl hc) rfl B9 rfl) ?_
  refine D2 rfl (I2 rfl rfl rfl) (fun hc => O5 rfl (A6 rfl hc) (A6 rfl hc)) ?_
  refine B2 rfl rfl (T5 rfl (A0 rfl) (F6 rfl)) ?_
  refine B2 rfl rfl (C1 rfl (A0 rfl)) ?_
  refine D2 rfl (I2 rfl rfl rfl) (fun hc => C1 rfl (A0 rfl)) ?_
  refine D2 rfl (I2 rfl rfl rfl) (fun hc => O5 rfl (A6 rfl hc) B6) ?_
  refine D2 rfl (I2 rfl rfl rfl) (fun hc => C1 rfl (A6 rfl hc)) ?_
  refine D2 rfl (E0 rfl rfl rfl) (fun hc => B1 2 rfl C0 rfl G2 (A0 rfl) rfl) ?_
  refine D2 rfl (E0 rfl rfl rfl) (fun hc => B0 1 rfl (A6 rfl hc) rfl L3 rfl) ?_
  refine D2 rfl (E0 rfl rfl rfl) (fun hc => C1 rfl (A0 rfl)) ?_
  refine D2 rfl (E0 rfl rfl rfl) (fun hc => Q3 rfl (A6 rfl hc) B6 (by first | omega | ((try simp only [D3, A9, szR] at *); omega) | (have hc2 := hc; simp only [P3, beq_iff_eq, bne_iff_ne, A8, F0] at hc2; omega))) ?_
  refine D2 rfl (E0 rfl rfl rfl) (fun hc => I9 rfl E1 D4 (A6 rfl hc) (A6 rfl hc) hy (by first | omega | ((try simp only [D3, A9, szR] at *); omega) | (have hc2 := hc; simp only [P3, beq_iff_eq, bne_iff_ne, A8, F0] at hc2; omega))) ?_
  refine D2 rfl (E0 rfl rfl rfl) (fun hc => V1 rfl F1 rfl B3 (A6 rfl hc) rfl) ?_
  refine D2 rfl (E0 rfl rfl rfl) (fun hc => N4 rfl (A6 rfl hc) B9 rfl) ?_
  refine D2 rfl (E0 rfl rfl rfl) (fun hc => B1 0 rfl F1 rfl B3 (A0 rfl) rfl) ?_
  refine D2 rfl (E0 rfl rfl rfl) (fun hc => B0 0 rfl (A6 rfl hc) rfl B9 rfl) ?_
  refine D2 rfl (E0 rfl rfl rfl) (fun hc => Z9 rfl (A6 rfl hc) (A6 rfl hc)) ?_
  refine D2 rfl (I2 rfl rfl rfl) (fun hc => H6 rfl (A6 rfl hc) (P7 rfl hc)) ?_
  refine B2 rfl rfl (T5 rfl (A0 rfl) (F6 rfl)) ?_
  refine P1 ?_
  refine C4 (A0 rfl) ?_ ?_
  ·intro h43
   have hfin : areHeld s = false := by (unfold areHeld; rw [Y9 hlt (by rw [AA1 hx hy, h43]; rfl)]; rfl)
   refine A3 (A2 ?_)
   refine A1 rfl (B7 rfl F5) ?_
   refine A4 ?_
   refine C5 ?_
   exact H5 rfl (C3 rfl (by first | exact congrArg AV.bool hfin.symm | exact congrArg AV.bool (by unfold areHeld; rw [hall, Bool.true_and, List.nil_append, A8]; congr 1; rw [decide_eq_decide]; omega)))
  intro h43
  refine C7 (A3 (A3 (A2 ?_)))
  refine A1 rfl (B1 2 rfl C0 rfl G2 (A0 rfl) rfl) ?_
  refine A1 rfl (B0 1 rfl (A0 rfl) rfl L3 rfl) ?_
  refine A5 rfl ?_
  refine A1 rfl (AC6 rfl E1 D4 (A0 rfl) (A0 rfl) (by first | omega | (simp only [D3, A9, szR] at *; omega)) (by first | omega | (simp only [D3, A9, szR] at *; omega))) ?_
  refine A1 rfl (G9 rfl E1 (A0 rfl)) ?_
  refine A1 rfl (C1 rfl B6) ?_
  refine A4 (C8 ?_)
  refine J1 [(1, _), (3, _), (4, _), (10, _), (11, _), (12, _), (13, _), (14, _), (15, _), (16, _), (17, _), (18, _), (19, _), (20, _), (21, _), (27, _), (28, _), (43, _), (44, _), (45, _), (46, _), (47, _), (48, _)] _ (fun (q : Nat) => q ≤ (s.Held.take i).length ∧ ((s.Held.take i).all fun g => apart g h.Reads h.Writes) = (((s.Held.take i).drop q).all fun g => apart g h.Reads h.Writes)) (fun (q : Nat) => []) (fun (q : Nat) => [(49, AV.int q)]) (fun (q : Nat) => (s.Held.take i).length - q) (0) ?_ (K0 ⟨rfl, rfl, rfl, rfl, rfl, rfl, rfl, rfl, rfl, rfl, rfl, rfl, rfl, rfl, rfl, rfl, rfl, rfl, rfl, rfl, rfl, rfl, rfl, rfl, trivial⟩) ?_
  ·exact ⟨Nat.zero_le _, rfl⟩
  intro q hinv
  refine A3 (A2 ?_)
  refine A1 rfl (J6 rfl (A0 rfl) (A0 rfl)) ?_
  refine A4 (A3 ?_)
  refine C4 (A0 rfl) ?_ ?_
  ·intro h50
   have k50 := of_decide_eq_true h50; try simp only [A8] at k50
   have hlt2 : q < (s.Held.take i).length := by (simp only [F0, A8, Int.toNat_natCast] at k50 ⊢; omega)
   obtain ⟨k, hx2⟩ := get_some hlt2
   refine C7 (A3 (C8 (A3 (A2 ?_))))
   refine A1 rfl (I9 rfl E1 D4 (A0 rfl) (A0 rfl) hx2 (by first | omega | (simp only [D3, A9, szR] at *; omega))) ?_
   refine A1 rfl (K6 rfl (A0 rfl) I6 D4) ?_
   refine F9 rfl rfl rfl rfl Tryz.zeroValue141 rfl ?_
   intro b6
   refine D6 0 rfl rfl rfl (A0 rfl) (A0 rfl) (E7 _) rfl D4 rfl ?_
   refine A4 (A3 (A2 ?_))
   refine A1 rfl (F7 0 rfl (A0 rfl) rfl I6 D4 rfl) ?_
   refine A1 rfl (B1 3 rfl F1 rfl M7 (A0 rfl) rfl) ?_
   refine A1 rfl (B0 1 rfl (A0 rfl) rfl P6 rfl) ?_
   refine A1 rfl (B1 4 rfl F1 rfl K2 (A0 rfl) rfl) ?_
   refine A1 rfl (B0 1 rfl (A0 rfl) rfl L9 rfl) ?_
   refine A1 rfl (E4 rfl Tryz.call178 rfl (apart_spec _ _ _) (A7 (A0 rfl) (A7 (A0 rfl) (A7 (A0 rfl) C6)))) ?_
   refine A1 rfl (M2 rfl (A0 rfl)) ?_
   refine A4 ?_
   refine C4 (A0 rfl) ?_ ?_
   ·intro h59
    have hfin : areHeld s = false := by (unfold areHeld; rw [Y9 hlt (by rw [AA1 hx hy, hinv.2, drop_some hx2, List.all_cons, show apart k h.Reads h.Writes = false by simpa using h59]; simp)]; rfl)
    refine A3 (A2 ?_)
    refine A1 rfl (B7 rfl F5) ?_
    refine A4 ?_
    refine C5 ?_
    exact H5 rfl (C3 rfl (by first | exact congrArg AV.bool hfin.symm | exact congrArg AV.bool (by unfold areHeld; rw [hall, Bool.true_and, List.nil_append, A8]; congr 1; rw [decide_eq_decide]; omega)))
   intro h59
   refine C7 (A2 ?_)
   refine A1 rfl (G8 rfl (A0 rfl) B6 (by first | omega | (simp only [D3, A9, szR] at *; omega))) ?_
   refine A5 rfl ?_
   refine A4 ?_
   refine L4 q (q + 1) ?_ ?_ (U3 1 ⟨rfl, rfl, rfl, rfl, rfl, rfl, rfl, rfl, rfl, rfl, rfl, rfl, rfl, rfl, rfl, rfl, rfl, rfl, rfl, rfl, rfl, rfl, rfl, rfl, trivial⟩)
   ·exact ⟨by omega, by rw [hinv.2, drop_some hx2, List.all_cons, show apart k h.Reads h.Writes = true by simpa using h59]; rfl⟩
   omega
  intro h50
  have k50 := of_decide_eq_false h50; try simp only [A8] at k50
  have hge2 : (s.Held.take i).length ≤ q := by (simp only [F0, A8, Int.toNat_natCast] at k50 ⊢; omega)
  have hap : ((s.Held.take i).all fun g => apart g h.Reads h.Writes) = true := by (rw [hinv.2, List.drop_eq_nil_of_le hge2]; rfl)
  refine G6 ?_
  refine A3 (A2 ?_)
  refine A1 rfl (B1 4 rfl F1 rfl K2 (A0 rfl) rfl) ?_
  refine A1 rfl (B0 0 rfl (A0 rfl) rfl L9 rfl) ?_
  refine A1 rfl (G9 rfl G3 (A0 rfl)) ?_
  refine A1 rfl (C1 rfl B6) ?_
  refine A4 (C8 ?_)
  refine J1 [(1, _), (3, _), (4, _), (10, _), (11, _), (12, _), (13, _), (14, _), (15, _), (16, _), (17, _), (18, _), (19, _), (20, _), (21, _), (27, _), (28, _), (43, _), (44, _), (45, _), (46, _), (47, _), (48, _), (49, _), (50, _), (61, _), (62, _), (63, _)] _ (fun (r : Nat) => r ≤ h.Writes.length ∧ (h.Writes.all fun w => decide (lastTime s.Cells w.Key < h.Time)) = ((h.Writes.drop r).all fun w => decide (lastTime s.Cells w.Key < h.Time))) (fun (r : Nat) => []) (fun (r : Nat) => [(64, AV.int r)]) (fun (r : Nat) => h.Writes.length - r) (0) ?_ (K0 ⟨rfl, rfl, rfl, rfl, rfl, rfl, rfl, rfl, rfl, rfl, rfl, rfl, rfl, rfl, rfl, rfl, rfl, rfl, rfl, rfl, rfl, rfl, rfl, rfl, rfl, rfl, rfl, rfl, rfl, trivial⟩) ?_
  ·exact ⟨Nat.zero_le _, rfl⟩
  intro r hinv
  refine A3 (A2 ?_)
  refine A1 rfl (J6 rfl (A0 rfl) (A0 rfl)) ?_
  refine A4 (A3 ?_)
  refine C4 (A0 rfl) ?_ ?_
  ·intro h65
   have k65 := of_decide_eq_true h65; try simp only [A8] at k65
   have hlt3 : r < h.Writes.length := by omega
   obtain ⟨w, hw⟩ := get_some hlt3
   refine C7 (A3 (C8 (A3 (A2 ?_))))
   refine A1 rfl (I9 rfl G3 I3 (A0 rfl) (A0 rfl) hw (by first | omega | (simp only [D3, A9, szR] at *; omega))) ?_
   refine A1 rfl (K6 rfl (A0 rfl) U5 I3) ?_
   refine F9 rfl rfl rfl rfl Tryz.zeroValue101 rfl ?_
   intro b8
   refine D6 0 rfl rfl rfl (A0 rfl) (A0 rfl) (E7 _) rfl I3 rfl ?_
   refine A4 (A3 ?_)
   refine I8 (by kernel_rfl) (by kernel_rfl) rfl ?_
   refine B2 rfl rfl (B1 1 rfl C0 rfl N9 (A0 rfl) rfl) ?_
   refine B2 rfl rfl (B0 2 rfl (A0 rfl) rfl Q1 rfl) ?_
   refine B2 rfl rfl (B1 0 rfl J0 rfl E8 (A0 rfl) rfl) ?_
   refine B2 rfl rfl (B0 0 rfl (A0 rfl) rfl G5 rfl) ?_
   refine B2 rfl rfl (E4 rfl Tryz.call127 rfl (AE8 _ _ (by first | assumption | exact X6 (by rw [X5]; assumption)) (by first | assumption | omega)) (A7 (A0 rfl) (A7 (A0 rfl) C6))) ?_
   refine B2 rfl rfl (B1 1 rfl F1 rfl B3 (A0 rfl) rfl) ?_
   refine B2 rfl rfl (B0 1 rfl (A0 rfl) rfl B9 rfl) ?_
   refine B2 rfl rfl (Z9 rfl (A0 rfl) (A0 rfl)) ?_
   refine P1 ?_
   refine C4 (A0 rfl) ?_ ?_
   ·intro h75
    have k75 := of_decide_eq_true h75; try simp only [A8] at k75
    have hfin : areHeld s = false := by (unfold areHeld; rw [Y9 hlt (by rw [AA1 hx hy, hinv.2, drop_some hw, List.all_cons, decide_eq_false (show ¬ lastTime s.Cells w.Key < h.Time by omega)]; simp)]; rfl)
    refine A3 (A2 ?_)
    refine A1 rfl (B7 rfl F5) ?_
    refine A4 ?_
    refine C5 ?_
    exact H5 rfl (C3 rfl (by first | exact congrArg AV.bool hfin.symm | exact congrArg AV.bool (by unfold areHeld; rw [hall, Bool.true_and, List.nil_append, A8]; congr 1; rw [decide_eq_decide]; omega)))
   intro h75
   have k75 := of_decide_eq_false h75; try simp only [A8] at k75
   refine C7 (A2 ?_)
   refine A1 rfl (G8 rfl (A0 rfl) B6 (by first | omega | (simp only [D3, A9, szR] at *; omega))) ?_
   refine A5 rfl ?_
   refine A4 ?_
   refine L4 r (r + 1) ?_ ?_ (U3 1 ⟨rfl, rfl, rfl, rfl, rfl, rfl, rfl, rfl, rfl, rfl, rfl, rfl, rfl, rfl, rfl, rfl, rfl, rfl, rfl, rfl, rfl, rfl, rfl, rfl, rfl, rfl, rfl, rfl, rfl, trivial⟩)
   ·exact ⟨by omega, by rw [hinv.2, drop_some hw, List.all_cons, decide_eq_true (show lastTime s.Cells w.Key < h.Time by omega)]; rfl⟩
   omega
  intro h65
  have k65 := of_decide_eq_false h65; try simp only [A8] at k65
  have hge3 : h.Writes.length ≤ r := by omega
  have hlw : (h.Writes.all fun w => decide (lastTime s.Cells w.Key < h.Time)) = true := by (rw [hinv.2, List.drop_eq_nil_of_le hge3]; rfl)
  refine G6 ?_
  refine A2 ?_
  refine A1 rfl (G8 rfl (A0 rfl) B6 (by first | omega | (simp only [D3, A9, szR] at *; omega))) ?_
  refine A5 rfl ?_
  refine A4 ?_
  refine L4 i (i + 1) ?_ ?_ (U3 1 ⟨rfl, rfl, rfl, rfl, trivial⟩)
  ·exact ⟨by omega, fun j hj => if hji : j < i then hinv0.2 j hji else (by have e : j = i := (by omega); subst e; rw [AA1 hx hy, h43, hap, hlw]; rfl)⟩
  omega
 intro h13
 have k13 := of_decide_eq_false h13; try simp only [A8] at k13
 have hge : s.Held.length ≤ i := by omega
 have hall : allB s.Held.length (heldAt s) = true := k0.2 fun j hj => hinv.2 j (by omega)
 refine G6 ?_
 refine A3 (A2 ?_)
 refine A1 rfl (B1 2 rfl C0 rfl G2 (A0 rfl) rfl) ?_
 refine A1 rfl (B0 0 rfl (A0 rfl) rfl L3 rfl) ?_
 refine A1 rfl (G9 rfl E1 (A0 rfl)) ?_
 refine A1 rfl (U7 rfl (A0 rfl) B6) ?_
 refine A5 rfl ?_
 refine C9 rfl (fun hc => F7 0 rfl (A0 rfl) rfl E2 C2 rfl) ?_
 refine C9 rfl (fun hc => E4 rfl Tryz.call179 rfl (AW2 s [] hs (by (have h9 := Af1 (Ax0 hall); have h8 := of_decide_eq_true hc; simp only [A8] at h8; simp only [L6]; omega))) (A7 (A6 rfl hc) (A7 AX9 C6))) ?_
 refine A1 rfl (H6 rfl (A0 rfl) (F6 rfl)) ?_
 refine B5 rfl ?_
 refine A4 ?_
 refine C5 ?_
 exact H5 rfl (C3 rfl (by first | exact congrArg AV.bool hfin.symm | exact congrArg AV.bool (by unfold areHeld; rw [hall, Bool.true_and, List.nil_append, A8]; congr 1; rw [decide_eq_decide]; omega)))
theorem AW3 (s : TState) (hs : s.size ≤ 1048576) : FSpec Tryz.prog 80 [AV.agg s.cs] (AV.bool (goodState s)) := by
 obtain ⟨hs1, hs2, hs3, hs4, hs5⟩ := V8 hs
 refine E5 Tryz.func80 rfl Tryz.ntmps80 rfl ?_
 refine A3 (A2 ?_)
 refine N8 rfl rfl rfl rfl (A0 rfl) ?_
 intro b1
 refine A1 rfl (B7 rfl F5) ?_
 refine A4 (A3 (A3 (A2 ?_)))
 refine A1 rfl (B1 0 rfl C0 rfl B3 (A0 rfl) rfl) ?_
 refine A1 rfl (B0 0 rfl (A0 rfl) rfl B9 rfl) ?_
 refine A1 rfl (E4 rfl Tryz.call124 rfl (Ap9 _) (A7 (A0 rfl) C6)) ?_
 refine A1 rfl (M2 rfl (A0 rfl)) ?_
 refine A5 rfl ?_
 refine J5 rfl (fun hc => B1 1 rfl C0 rfl N9 (A0 rfl) rfl) ?_
 refine J5 rfl (fun hc => B0 0 rfl (A6 rfl hc) rfl Q1 rfl) ?_
 refine J5 rfl (fun hc => E4 rfl Tryz.call125 rfl (AQ0 _ (by first | assumption | omega)) (A7 (A6 rfl hc) C6)) ?_
 refine J5 rfl (fun hc => M2 rfl (A6 rfl hc)) ?_
 refine A1 rfl (T5 rfl (A0 rfl) (F6 rfl)) ?_
 refine A5 rfl ?_
 refine J5 rfl (fun hc => F7 0 rfl (A0 rfl) rfl E2 C2 rfl) ?_
 refine J5 rfl (fun hc => E4 rfl Tryz.call126 rfl (Ah8 s (X6 (by have h9 := hc; simp at h9; rw [X5]; exact h9.2)) (by have h9 := hc; simp at h9; have h8 := (U0 (by rw [X5]; exact h9.2)).1; omega) hs) (A7 (A6 rfl hc) C6)) ?_
 refine J5 rfl (fun hc => M2 rfl (A6 rfl hc)) ?_
 refine A1 rfl (T5 rfl (A0 rfl) (F6 rfl)) ?_
 refine A5 rfl ?_
 refine J5 rfl (fun hc => B1 3 rfl C0 rfl N2 (A0 rfl) rfl) ?_
 refine J5 rfl (fun hc => B0 0 rfl (A6 rfl hc) rfl T7 rfl) ?_
 refine J5 rfl (fun hc => G9 rfl I0 (A6 rfl hc)) ?_
 refine J5 rfl (fun hc => O5 rfl (A6 rfl hc) B6) ?_
 refine A1 rfl (T5 rfl (A0 rfl) (F6 rfl)) ?_
 refine A4 ?_
 refine C4 (A0 rfl) ?_ ?_
 ·intro h29
  have hfin : goodState s = false := by (unfold goodState; simp only [Bool.or_eq_true, Bool.not_eq_true', decide_eq_true_eq, A8] at h29; rcases h29 with ((h | h) | h) | h; (rw [h]; rfl); (rw [X5, h]; simp); (rw [h]; simp); (rw [decide_eq_false (show ¬ s.Told.length ≤ 60 by omega)]; simp))
  refine A3 (A2 ?_)
  refine A1 rfl (B7 rfl F5) ?_
  refine A4 ?_
  refine C5 ?_
  exact H5 rfl (C3 rfl (by exact congrArg AV.bool hfin.symm))
 intro h29
 simp only [Bool.or_eq_false_iff, Bool.not_eq_false', decide_eq_false_iff_not, A8] at h29
 obtain ⟨⟨⟨q1, q2⟩, q3⟩, q4⟩ := h29
 have hco := X6 (by rw [X5]; exact q2)
 have hgs : goodState s = ((s.Cells.all fun c => decide (lastTime s.Cells c.Key ≤ s.Floor)) && allB s.Told.length (toldAt s)) := by (unfold goodState; rw [q1, X5, q2, q3, decide_eq_true (show s.Told.length ≤ 60 by omega)]; simp)
 refine C7 (A3 (A3 (A2 ?_)))
 refine A1 rfl (B1 1 rfl C0 rfl N9 (A0 rfl) rfl) ?_
 refine A1 rfl (B0 0 rfl (A0 rfl) rfl Q1 rfl) ?_
 refine A1 rfl (G9 rfl E9 (A0 rfl)) ?_
 refine A1 rfl (C1 rfl B6) ?_
 refine A4 (C8 ?_)
 refine J1 [(1, _), (31, _), (32, _)] _ (fun (i : Nat) => i ≤ s.Cells.length ∧ (s.Cells.all fun c => decide (lastTime s.Cells c.Key ≤ s.Floor)) = ((s.Cells.drop i).all fun c => decide (lastTime s.Cells c.Key ≤ s.Floor))) (fun (i : Nat) => []) (fun (i : Nat) => [(33, AV.int i)]) (fun (i : Nat) => s.Cells.length - i) (0) ?_ (K0 ⟨rfl, rfl, rfl, rfl, trivial⟩) ?_
 ·exact ⟨Nat.zero_le _, rfl⟩
 intro i hinv
 refine A3 (A2 ?_)
 refine A1 rfl (J6 rfl (A0 rfl) (A0 rfl)) ?_
 refine A4 (A3 ?_)
 refine C4 (A0 rfl) ?_ ?_
 ·intro h34
  have k34 := of_decide_eq_true h34; try simp only [A8] at k34
  have hlt : i < s.Cells.length := by omega
  obtain ⟨c, hx⟩ := get_some hlt
  refine C7 (A3 (C8 (A3 (A2 ?_))))
  refine A1 rfl (I9 rfl E9 G0 (A0 rfl) (A0 rfl) hx (by first | omega | (simp only [D3, A9, szR] at *; omega))) ?_
  refine A1 rfl (K6 rfl (A0 rfl) U6 G0) ?_
  refine F9 rfl rfl rfl rfl Tryz.zeroValue125 rfl ?_
  intro b4
  refine D6 0 rfl rfl rfl (A0 rfl) (A0 rfl) (E7 _) rfl G0 rfl ?_
  refine A4 (A3 ?_)
  refine I8 (by kernel_rfl) (by kernel_rfl) rfl ?_
  refine B2 rfl rfl (B1 1 rfl C0 rfl N9 (A0 rfl) rfl) ?_
  refine B2 rfl rfl (B0 1 rfl (A0 rfl) rfl Q1 rfl) ?_
  refine B2 rfl rfl (B1 0 rfl G7 rfl E8 (A0 rfl) rfl) ?_
  refine B2 rfl rfl (B0 0 rfl (A0 rfl) rfl G5 rfl) ?_
  refine B2 rfl rfl (E4 rfl Tryz.call127 rfl (AE8 _ _ (by first | assumption | exact X6 (by rw [X5]; assumption)) (by first | assumption | omega)) (A7 (A0 rfl) (A7 (A0 rfl) C6))) ?_
  refine B2 rfl rfl (B1 0 rfl C0 rfl B3 (A0 rfl) rfl) ?_
  refine B2 rfl rfl (B0 1 rfl (A0 rfl) rfl B9 rfl) ?_
  refine B2 rfl rfl (O5 rfl (A0 rfl) (A0 rfl)) ?_
  refine P1 ?_
  refine C4 (A0 rfl) ?_ ?_
  ·intro h44
   have k44 := of_decide_eq_true h44; try simp only [A8] at k44
   have hfin : goodState s = false := by (rw [hgs, hinv.2, drop_some hx, List.all_cons, decide_eq_false (show ¬ lastTime s.Cells c.Key ≤ s.Floor by omega)]; rfl)
   refine A3 (A2 ?_)
   refine A1 rfl (B7 rfl F5) ?_
   refine A4 ?_
   refine C5 ?_
   exact H5 rfl (C3 rfl (by exact congrArg AV.bool hfin.symm))
  intro h44
  have k44 := of_decide_eq_false h44; try simp only [A8] at k44
  refine C7 (A2 ?_)
  refine A1 rfl (G8 rfl (A0 rfl) B6 (by first | omega | (simp only [D3, A9, szR] at *; omega))) ?_
  refine A5 rfl ?_
  refine A4 ?_
  refine L4 i (i + 1) ?_ ?_ (U3 1 ⟨rfl, rfl, rfl, rfl, trivial⟩)
  ·exact ⟨by omega, by rw [hinv.2, drop_some hx, List.all_cons, decide_eq_true (show lastTime s.Cells c.Key ≤ s.Floor by omega)]; rfl⟩
  omega
 intro h34
 have k34 := of_decide_eq_false h34; try simp only [A8] at k34
 have hge : s.Cells.length ≤ i := by omega
 have hgs2 : goodState s = allB s.Told.length (toldAt s) := by (rw [hgs, hinv.2, List.drop_eq_nil_of_le hge]; rfl)
 refine G6 ?_
 refine A3 (A3 (A2 ?_))
 refine A1 rfl (B1 3 rfl C0 rfl N2 (A0 rfl) rfl) ?_
 refine A1 rfl (B0 0 rfl (A0 rfl) rfl T7 rfl) ?_
 refine A1 rfl (G9 rfl I0 (A0 rfl)) ?_
 refine A1 rfl (C1 rfl B6) ?_
 refine A4 (C8 ?_)
 refine J1 [(1, _), (47, _), (48, _)] _ (fun (q : Nat) => q ≤ s.Told.length ∧ ∀ j, j < q → toldAt s j = true) (fun (q : Nat) => []) (fun (q : Nat) => [(49, AV.int q)]) (fun (q : Nat) => s.Told.length - q) (0) ?_ (K0 ⟨rfl, rfl, rfl, rfl, trivial⟩) ?_
 ·exact ⟨Nat.zero_le _, fun j hj => by omega⟩
 intro q hinv
 refine A3 (A2 ?_)
 refine A1 rfl (J6 rfl (A0 rfl) (A0 rfl)) ?_
 refine A4 (A3 ?_)
 refine C4 (A0 rfl) ?_ ?_
 ·intro h50
  have k50 := of_decide_eq_true h50; try simp only [A8] at k50
  have hlt : q < s.Told.length := by omega
  obtain ⟨t, hx⟩ := get_some hlt
  obtain ⟨y, hy⟩ := get_some (show q - 1 < s.Told.length by omega)
  refine C7 (A3 (C8 (A3 (A2 ?_))))
  refine A5 rfl ?_
  refine A1 rfl (I9 rfl I0 K8 (A0 rfl) (A0 rfl) hx (by first | omega | (simp only [D3, A9, szR] at *; omega))) ?_
  refine A1 rfl (K6 rfl (A0 rfl) Z4 K8) ?_
  refine F9 rfl rfl rfl rfl Tryz.zeroValue144 rfl ?_
  intro b6
  refine B5 rfl ?_
  refine D6 0 rfl rfl rfl (A0 rfl) (A0 rfl) (E7 _) rfl K8 rfl ?_
  refine A4 (A3 (A3 ?_))
  refine I8 (by kernel_rfl) (by kernel_rfl) rfl ?_
  refine B2 rfl rfl (B1 0 rfl K9 rfl B3 (A0 rfl) rfl) ?_
  refine B2 rfl rfl (B0 0 rfl (A0 rfl) rfl B9 rfl) ?_
  refine B2 rfl rfl (E4 rfl Tryz.call39 rfl (V7 _ _ _) (A7 (A0 rfl) (A7 B6 (A7 B6 C6)))) ?_
  refine B2 rfl rfl (M2 rfl (A0 rfl)) ?_
  refine B2 rfl rfl (C1 rfl (A0 rfl)) ?_
  refine D2 rfl (I2 rfl rfl rfl) (fun hc => C1 rfl (A0 rfl)) ?_
  refine D2 rfl (I2 rfl rfl rfl) (fun hc => O5 rfl (A6 rfl hc) B6) ?_
  refine D2 rfl (I2 rfl rfl rfl) (fun hc => C1 rfl (A6 rfl hc)) ?_
  refine D2 rfl (E0 rfl rfl rfl) (fun hc => B1 3 rfl C0 rfl N2 (A0 rfl) rfl) ?_
  refine D2 rfl (E0 rfl rfl rfl) (fun hc => B0 1 rfl (A6 rfl hc) rfl T7 rfl) ?_
  refine D2 rfl (E0 rfl rfl rfl) (fun hc => C1 rfl (A0 rfl)) ?_
  refine D2 rfl (E0 rfl rfl rfl) (fun hc => Q3 rfl (A6 rfl hc) B6 (by first | omega | ((try simp only [D3, A9, szR] at *); omega) | (have hc2 := hc; simp only [P3, beq_iff_eq, bne_iff_ne, A8, F0] at hc2; omega))) ?_
  refine D2 rfl (E0 rfl rfl rfl) (fun hc => I9 rfl I0 K8 (A6 rfl hc) (A6 rfl hc) hy (by first | omega | ((try simp only [D3, A9, szR] at *); omega) | (have hc2 := hc; simp only [P3, beq_iff_eq, bne_iff_ne, A8, F0] at hc2; omega))) ?_
  refine D2 rfl (E0 rfl rfl rfl) (fun hc => V1 rfl K9 rfl B3 (A6 rfl hc) rfl) ?_
  refine D2 rfl (E0 rfl rfl rfl) (fun hc => N4 rfl (A6 rfl hc) B9 rfl) ?_
  refine D2 rfl (E0 rfl rfl rfl) (fun hc => B1 0 rfl K9 rfl B3 (A0 rfl) rfl) ?_
  refine D2 rfl (E0 rfl rfl rfl) (fun hc => B0 0 rfl (A6 rfl hc) rfl B9 rfl) ?_
  refine D2 rfl (E0 rfl rfl rfl) (fun hc => Z9 rfl (A6 rfl hc) (A6 rfl hc)) ?_
  refine D2 rfl (I2 rfl rfl rfl) (fun hc => H6 rfl (A6 rfl hc) (P7 rfl hc)) ?_
  refine B2 rfl rfl (T5 rfl (A0 rfl) (F6 rfl)) ?_
  refine B2 rfl rfl (C1 rfl (A0 rfl)) ?_
  refine D2 rfl (I2 rfl rfl rfl) (fun hc => B1 1 rfl K9 rfl J8 (A0 rfl) rfl) ?_
  refine D2 rfl (I2 rfl rfl rfl) (fun hc => B0 0 rfl (A6 rfl hc) rfl L8 rfl) ?_
  refine D2 rfl (I2 rfl rfl rfl) (fun hc => C1 rfl (A6 rfl hc)) ?_
  refine D2 rfl (E0 rfl rfl rfl) (fun hc => B1 2 rfl K9 rfl B3 (A0 rfl) rfl) ?_
  refine D2 rfl (E0 rfl rfl rfl) (fun hc => B0 0 rfl (A6 rfl hc) rfl B9 rfl) ?_
  refine D2 rfl (E0 rfl rfl rfl) (fun hc => B1 0 rfl C0 rfl B3 (A0 rfl) rfl) ?_
  refine D2 rfl (E0 rfl rfl rfl) (fun hc => B0 1 rfl (A6 rfl hc) rfl B9 rfl) ?_
  refine D2 rfl (E0 rfl rfl rfl) (fun hc => E4 rfl Tryz.call39 rfl (V7 _ _ _) (A7 (A6 rfl hc) (A7 B6 (A7 (A6 rfl hc) C6)))) ?_
  refine D2 rfl (E0 rfl rfl rfl) (fun hc => M2 rfl (A6 rfl hc)) ?_
  refine D2 rfl (I2 rfl rfl rfl) (fun hc => H6 rfl (A6 rfl hc) (P7 rfl hc)) ?_
  refine B2 rfl rfl (T5 rfl (A0 rfl) (F6 rfl)) ?_
  refine B2 rfl rfl (C1 rfl (A0 rfl)) ?_
  refine D2 rfl (I2 rfl rfl rfl) (fun hc => B1 1 rfl K9 rfl J8 (A0 rfl) rfl) ?_
  refine D2 rfl (I2 rfl rfl rfl) (fun hc => B0 0 rfl (A6 rfl hc) rfl L8 rfl) ?_
  refine D2 rfl (I2 rfl rfl rfl) (fun hc => M2 rfl (A6 rfl hc)) ?_
  refine D2 rfl (I2 rfl rfl rfl) (fun hc => C1 rfl (A6 rfl hc)) ?_
  refine D2 rfl (E0 rfl rfl rfl) (fun hc => B1 2 rfl K9 rfl B3 (A0 rfl) rfl) ?_
  refine D2 rfl (E0 rfl rfl rfl) (fun hc => B0 0 rfl (A6 rfl hc) rfl B9 rfl) ?_
  refine D2 rfl (E0 rfl rfl rfl) (fun hc => y9 rfl (A6 rfl hc) B6) ?_
  refine D2 rfl (I2 rfl rfl rfl) (fun hc => H6 rfl (A6 rfl hc) (P7 rfl hc)) ?_
  refine B2 rfl rfl (T5 rfl (A0 rfl) (F6 rfl)) ?_
  refine P1 ?_
  refine C4 (A0 rfl) ?_ ?_
  ·intro h95
   have hfin : goodState s = false := by (rw [hgs2]; exact Y9 hlt (by rw [AI4 hx hy, h95]; rfl))
   refine A3 (A2 ?_)
   refine A1 rfl (B7 rfl F5) ?_
   refine A4 ?_
   refine C5 ?_
   exact H5 rfl (C3 rfl (by exact congrArg AV.bool hfin.symm))
  intro h95
  refine C7 (A3 (A2 ?_))
  refine A1 rfl (F7 1 rfl (A0 rfl) rfl E2 C2 rfl) ?_
  refine A1 rfl (B1 0 rfl K9 rfl B3 (A0 rfl) rfl) ?_
  refine A1 rfl (B0 0 rfl (A0 rfl) rfl B9 rfl) ?_
  refine A1 rfl (E4 rfl Tryz.call128 rfl (AM7 _ _ (by first | assumption | omega)) (A7 (A0 rfl) (A7 (A0 rfl) C6))) ?_
  refine A5 rfl ?_
  refine A1 rfl (H8 rfl (A0 rfl) rfl) ?_
  refine A1 rfl (H8 rfl (A0 rfl) rfl) ?_
  refine F9 rfl rfl rfl rfl Tryz.zeroValue141 rfl ?_
  intro b7
  refine D6 0 rfl rfl rfl (A0 rfl) (A0 rfl) (E7 _) rfl D4 rfl ?_
  refine B5 rfl ?_
  refine A4 (A3 (A2 ?_))
  refine A5 rfl ?_
  refine A4 ?_
  refine C4 (A0 rfl) ?_ ?_
  ·intro h103
   have hfin : goodState s = false := by (rw [hgs2]; exact Y9 hlt (by rw [AI4 hx hy, ← AD5, h103]; simp))
   refine A3 (A2 ?_)
   refine A1 rfl (B7 rfl F5) ?_
   refine A4 ?_
   refine C5 ?_
   exact H5 rfl (C3 rfl (by exact congrArg AV.bool hfin.symm))
  intro h103
  refine C7 (A2 ?_)
  refine A1 rfl (G8 rfl (A0 rfl) B6 (by first | omega | (simp only [D3, A9, szR] at *; omega))) ?_
  refine A5 rfl ?_
  refine A4 ?_
  refine L4 q (q + 1) ?_ ?_ (U3 2 ⟨rfl, rfl, rfl, rfl, trivial⟩)
  ·exact ⟨by omega, fun j hj => if hji : j < q then hinv.2 j hji else (by have e : j = q := (by omega); subst e; rw [AI4 hx hy, h95, ← AD5, h103]; rfl)⟩
  omega
 intro h50
 have k50 := of_decide_eq_false h50; try simp only [A8] at k50
 have hge : s.Told.length ≤ q := by omega
 have hfin : goodState s = true := by (rw [hgs2]; exact k0.2 fun j hj => hinv.2 j (by omega))
 refine G6 ?_
 refine A3 (A2 ?_)
 refine A1 rfl (B7 rfl F5) ?_
 refine A4 ?_
 refine C5 ?_
 exact H5 rfl (C3 rfl (by exact congrArg AV.bool hfin.symm))
end Go.Proofs.YtkegepoihkhihaaGreat

namespace Go.Proofs.YtkegepoihkhihaaGreat
open Go Go.AV Go.M
attribute [local irreducible] OpW OpA OpS AWP FSpec ESpec GSpec OpE RetOk RetOkG RvDen Le Ev GuardIs SrcIs
end Go.Proofs.YtkegepoihkhihaaGreat

namespace Go.Proofs.YtkegepoihkhihaaGreat
open Go Go.AV Go.M
attribute [local irreducible] OpW OpA OpS AWP FSpec ESpec GSpec OpE RetOk RetOkG RvDen Le Ev GuardIs
end Go.Proofs.YtkegepoihkhihaaGreat

namespace Go.Proofs.YtkegepoihkhihaaGreat
open Go Go.AV Go.M
attribute [local irreducible] OpW OpA OpS AWP FSpec ESpec GSpec OpE RetOk RetOkG RvDen Le Ev GuardIs SrcIs
theorem AM9 (a b : Int) : FSpec Tryz.prog 38 [AV.int a, AV.int b] (AV.int (leastI a b)) := by
 refine E5 Tryz.func38 rfl Tryz.ntmps38 rfl ?_
 refine A3 (A2 ?_)
 refine A1 rfl (B7 rfl B6) ?_
 refine A4 (A3 (A3 (A2 ?_)))
 refine A5 rfl ?_
 refine A5 rfl ?_
 refine A1 rfl (J6 rfl (A0 rfl) (A0 rfl)) ?_
 refine A4 ?_
 refine C4 (A0 rfl) ?_ ?_
 ·intro h7
  have k7 := of_decide_eq_true h7; try simp only [A8] at k7
  have he : leastI a b = a := by unfold leastI; rw [if_pos k7]
  rw [he]
  refine A3 (A2 ?_)
  refine A5 rfl ?_
  refine B5 rfl ?_
  refine A4 ?_
  refine C5 ?_
  exact H5 rfl (C3 rfl (by first | rfl | (refine congrArg AV.bool ?_; simp_all; done)))
 intro h7
 have k7 := of_decide_eq_false h7; try simp only [A8] at k7
 have he : leastI a b = b := by unfold leastI; rw [if_neg k7]
 rw [he]
 refine C7 (A3 (A2 ?_))
 refine A5 rfl ?_
 refine B5 rfl ?_
 refine A4 ?_
 refine C5 ?_
 exact H5 rfl (C3 rfl (by first | rfl | (refine congrArg AV.bool ?_; simp_all; done)))
end Go.Proofs.YtkegepoihkhihaaGreat

set_option maxHeartbeats 2000000
namespace Go.M
open Go.AV
structure SO (s : TState) : Prop where
  floor : 0 ≤ s.Floor
  cells : CellsOk s.Cells
  hsort : s.Held.Pairwise fun a b => a.Txn < b.Txn
  tsort : s.Told.Pairwise fun a b => a.Txn < b.Txn
  times : ∀ h ∈ s.Held, 1 ≤ h.Time
theorem gs_so {s : TState} (g : GS s) : SO s := ⟨g.floor.1, X6 g.cells, g.hsort, g.tsort, fun h hm => (AI2 g hm).1⟩
theorem At6 {t : Int} : ∀ {w : List TWrite} {l q : List TCell}, CellsOk l → putAll l w t = some q → CellsOk q
  | [], l, q, h, e => by simp [putAll] at e; subst e; exact h
  | x :: w, l, q, h, e => by
    unfold putAll at e
    split at e
    · cases e
    · exact At6 (m5 h _ _) e
theorem so_apply {s : TState} (g : SO s) {r : TRec} (h : (applyS s r).2 = true) : SO (applyS s r).1 := by
  have h0 := g.floor
  have hless : SO ⟨s.Floor, s.Cells, lessH s.Held r.Txn, s.Told⟩ := ⟨h0, g.cells, g.hsort.sublist List.filter_sublist, g.tsort, fun k hk => g.times k (Ad8.1 hk).1⟩
  unfold applyS at h ⊢
  by_cases h4 : r.Kind = 4
  · rw [if_pos h4] at h ⊢
    have := of_decide_eq_true h
    exact ⟨by dsimp only; omega, g.cells, g.hsort, g.tsort, g.times⟩
  · rw [if_neg h4] at h ⊢
    by_cases hT : hasT s.Told r.Txn = true
    · rw [if_pos hT] at h; cases h
    · rw [if_neg hT] at h ⊢
      rw [Bool.not_eq_true] at hT
      have htn := hasT_not.1 hT
      have htl : (insT ⟨r.Txn, r.Yes, r.Time⟩ s.Told).Pairwise fun a b => a.Txn < b.Txn := Ad7 g.tsort htn
      by_cases h1 : r.Kind = 1
      · rw [if_pos h1] at h ⊢
        simp only [Bool.and_eq_true, Bool.not_eq_true', decide_eq_true_eq] at h
        refine ⟨by dsimp only; omega, g.cells, Ad6 g.hsort (hasH_not.1 h.1.1), g.tsort, fun k hk => ?_⟩
        rcases AS7.1 hk with rfl | hk
        · show 1 ≤ r.Time; omega
        · exact g.times k hk
      · rw [if_neg h1] at h ⊢
        by_cases hy : r.Yes = true
        · rw [if_pos hy] at h ⊢
          cases hf : findH s.Held r.Txn with
          | none => rw [hf] at h; cases h
          | some k =>
            rw [hf] at h
            dsimp only at h ⊢
            by_cases hlt : r.Time < k.Time
            · rw [if_pos hlt] at h; cases h
            · rw [if_neg hlt] at h ⊢
              by_cases hp : (putP s.Cells k.Writes r.Time).2 = true
              · rw [if_pos hp]
                exact ⟨by unfold doneS; dsimp only; split <;> omega, At6 g.cells (At0 hp).1, hless.hsort, htl, hless.times⟩
              · rw [if_neg hp] at h; cases h
        · rw [if_neg hy]
          exact ⟨h0, g.cells, hless.hsort, htl, hless.times⟩
theorem so_step {s : TState} (g : SO s) (r : TRec) : SO (stepS s r) := by
  unfold stepS
  split
  · exact so_apply g ‹_›
  · exact g
theorem Aa0 : SO zState := gs_so gs_zero
theorem AO5 : ∀ {l : List TRec} {s : TState}, SO s → SO (stFrom s l)
  | [], s, g => g
  | r :: l, s, g => by
    show SO (stFrom (stepS s r) l)
    exact AO5 (so_step g r)
theorem AD6 {l : List THeld} {i : Nat} {h : THeld} {n : Int} (hx : l[i]? = some h) : lessH (l.take (i + 1)) n = if (h.Txn != n) = true then lessH (l.take i) n ++ [h] else lessH (l.take i) n := by
  unfold lessH
  rw [List.take_add_one, hx, List.filter_append]
  show _ ++ List.filter _ [h] = _
  split
  · rename_i e; rw [List.filter_cons_of_pos (p := fun h : THeld => h.Txn != n) e]; rfl
  · rename_i e; rw [List.filter_cons_of_neg (p := fun h : THeld => h.Txn != n) e]; simp
end Go.M
namespace Go.Proofs.YtkegepoihkhihaaGreat
open Go Go.AV Go.M
attribute [local irreducible] OpW OpA OpS AWP FSpec ESpec GSpec OpE RetOk RetOkG RvDen Le Ev GuardIs SrcIs Int.tmod Int.tdiv IntKind.wrap
theorem AW4 (s : TState) (rs : List Str) (ws : List TWrite) (hs : s.size ≤ 400000) (hw : sizeL TWrite.size ws ≤ 400000) : FSpec Tryz.prog 203 [AV.agg s.cs, strs rs, AV.list 3 (ws.map TWrite.cs)] (AV.bool (fits s rs ws)) := by
 obtain ⟨hs1, hs2, hs3, hs4, hs5⟩ := V8 hs
 have hrm : room s.Cells (ws ++ hWs s.Held) = room s.Cells (hWs s.Held ++ ws) := Az8 fun w => by rw [List.mem_append, List.mem_append, or_comm]
 refine E5 Tryz.func203 rfl Tryz.ntmps203 rfl ?_
 refine A3 (A2 ?_)
 refine N8 rfl rfl rfl rfl (A0 rfl) ?_
 intro b3
 refine A1 rfl (B7 rfl F5) ?_
 refine A4 (A3 (A3 (A2 ?_)))
 refine A1 rfl (B1 2 rfl C0 rfl G2 (A0 rfl) rfl) ?_
 refine A1 rfl (B0 0 rfl (A0 rfl) rfl L3 rfl) ?_
 refine A1 rfl (G9 rfl E1 (A0 rfl)) ?_
 refine A1 rfl (C1 rfl B6) ?_
 refine A4 (C8 ?_)
 refine J1 [(1, _), (2, _), (3, _), (10, _), (11, _)] _ (fun (i : Nat) => i ≤ s.Held.length ∧ (s.Held.all fun h => apart h rs ws) = ((s.Held.drop i).all fun h => apart h rs ws)) (fun (i : Nat) => []) (fun (i : Nat) => [(12, AV.int i)]) (fun (i : Nat) => s.Held.length - i) (0) ?_ (K0 ⟨rfl, rfl, rfl, rfl, rfl, rfl, trivial⟩) ?_
 ·exact ⟨Nat.zero_le _, rfl⟩
 intro i hinv
 refine A3 (A2 ?_)
 refine A1 rfl (J6 rfl (A0 rfl) (A0 rfl)) ?_
 refine A4 (A3 ?_)
 refine C4 (A0 rfl) ?_ ?_
 ·intro h13
  have k13 := of_decide_eq_true h13; try simp only [A8] at k13
  have hlt : i < s.Held.length := by omega
  obtain ⟨h, hx⟩ := get_some hlt
  refine C7 (A3 (C8 (A3 (A2 ?_))))
  refine A1 rfl (I9 rfl E1 D4 (A0 rfl) (A0 rfl) hx (by first | omega | (simp only [D3, A9, szR] at *; omega))) ?_
  refine A1 rfl (K6 rfl (A0 rfl) I6 D4) ?_
  refine F9 rfl rfl rfl rfl Tryz.zeroValue141 rfl ?_
  intro b8
  refine D6 0 rfl rfl rfl (A0 rfl) (A0 rfl) (E7 _) rfl D4 rfl ?_
  refine A4 (A3 (A2 ?_))
  refine A1 rfl (F7 0 rfl (A0 rfl) rfl I6 D4 rfl) ?_
  refine A5 rfl ?_
  refine A5 rfl ?_
  refine A1 rfl (E4 rfl Tryz.call178 rfl (apart_spec _ _ _) (A7 (A0 rfl) (A7 (A0 rfl) (A7 (A0 rfl) C6)))) ?_
  refine A1 rfl (M2 rfl (A0 rfl)) ?_
  refine A4 ?_
  refine C4 (A0 rfl) ?_ ?_
  ·intro h20
   have hfin : fits s rs ws = false := by (unfold fits; rw [hinv.2, drop_some hx, List.all_cons, show apart h rs ws = false by simpa using h20]; rfl)
   refine A3 (A2 ?_)
   refine A1 rfl (B7 rfl F5) ?_
   refine A4 ?_
   refine C5 ?_
   exact H5 rfl (C3 rfl (by first | exact congrArg AV.bool hfin.symm | exact congrArg AV.bool (by unfold fits; rw [hap, hrm, Bool.true_and, A8]; congr 1; rw [decide_eq_decide]; omega)))
  intro h20
  refine C7 (A2 ?_)
  refine A1 rfl (G8 rfl (A0 rfl) B6 (by first | omega | (simp only [D3, A9, szR] at *; omega))) ?_
  refine A5 rfl ?_
  refine A4 ?_
  refine L4 i (i + 1) ?_ ?_ (U3 1 ⟨rfl, rfl, rfl, rfl, rfl, rfl, trivial⟩)
  ·exact ⟨by omega, by rw [hinv.2, drop_some hx, List.all_cons, show apart h rs ws = true by simpa using h20]; rfl⟩
  omega
 intro h13
 have k13 := of_decide_eq_false h13; try simp only [A8] at k13
 have hge : s.Held.length ≤ i := by omega
 have hap : (s.Held.all fun h => apart h rs ws) = true := by (rw [hinv.2, List.drop_eq_nil_of_le hge]; rfl)
 refine G6 ?_
 refine A3 (A2 ?_)
 refine A1 rfl (B1 2 rfl C0 rfl G2 (A0 rfl) rfl) ?_
 refine A1 rfl (B0 0 rfl (A0 rfl) rfl L3 rfl) ?_
 refine A1 rfl (G9 rfl E1 (A0 rfl)) ?_
 refine A1 rfl (J6 rfl (A0 rfl) B6) ?_
 refine A5 rfl ?_
 refine C9 rfl (fun hc => F7 0 rfl (A0 rfl) rfl E2 C2 rfl) ?_
 refine C9 rfl (fun hc => C1 rfl (A0 rfl)) ?_
 refine C9 rfl (fun hc => E4 rfl Tryz.call179 rfl (Aw9 _ _ (by first | assumption | omega) (by first | assumption | omega)) (A7 (A6 rfl hc) (A7 (A6 rfl hc) C6))) ?_
 refine A1 rfl (H6 rfl (A0 rfl) (F6 rfl)) ?_
 refine B5 rfl ?_
 refine A4 ?_
 refine C5 ?_
 exact H5 rfl (C3 rfl (by first | exact congrArg AV.bool hfin.symm | exact congrArg AV.bool (by unfold fits; rw [hap, hrm, Bool.true_and, A8]; congr 1; rw [decide_eq_decide]; omega)))
theorem Aq5 (h : THeld) (hs : h.size ≤ 1048576) : GSpec Tryz.prog 225 [AV.agg h.cs] [] (fun _ : Value × Value => True) (fun x => THeld.ow h x) (fun x => AV.agg (THeld.ocs h x)) := by
 have h3 := O3 (f := fun x : Str => x.length) (l := h.Reads)
 have h4 := O3 (f := TWrite.size) (l := h.Writes)
 have h5 : h.size = sizeL (fun x => x.length) h.Reads + sizeL TWrite.size h.Writes := rfl
 refine J9 Tryz.func225 rfl Tryz.ntmps225 rfl ?_
 refine A3 (A2 ?_)
 refine N8 rfl rfl rfl rfl (A0 rfl) ?_
 intro b1
 refine F9 rfl rfl rfl rfl Tryz.zeroValue141 rfl ?_
 intro b2
 refine A4 (A3 (A2 ?_))
 refine A1 rfl (B1 3 rfl F1 rfl M7 (A0 rfl) rfl) ?_
 refine A1 rfl (B0 1 rfl (A0 rfl) rfl P6 rfl) ?_
 refine J7 [] rfl rfl rfl rfl Tryz.call202 rfl (AA0 h.Reads (by omega)) (A7 (A0 rfl) C6) rfl ?_
 intro x5 ok5
 refine A1 rfl (B1 3 rfl F1 rfl M7 (A0 rfl) rfl) ?_
 refine W4 0 rfl fun one_x5 => ?_
 refine K4 2 rfl rfl rfl (A0 rfl) (A0 rfl) (V5 one_x5) rfl M7 rfl ?_
 refine A4 (A3 (A2 ?_))
 refine R7 rfl rfl rfl rfl G3 I3 ?_
 intro v7
 refine A1 rfl (B1 4 rfl F1 rfl K2 (A0 rfl) rfl) ?_
 refine A1 rfl (B0 3 rfl (A0 rfl) rfl L9 rfl) ?_
 refine M0 (by' := 40) 0 rfl rfl rfl rfl G3 Tryz.type101 rfl rfl rfl rfl rfl rfl (A0 rfl) (A0 rfl) rfl (by simp only [L6, A8]; omega) ?_
 intro v10_1
 refine A1 rfl (B1 4 rfl F1 rfl K2 (A0 rfl) rfl) ?_
 refine W4 0 rfl fun one_v10_1 => ?_
 refine K4 3 rfl rfl rfl (A0 rfl) (A0 rfl) (V5 one_v10_1) rfl K2 rfl ?_
 refine A4 (A3 (A2 ?_))
 refine A1 rfl (F7 3 rfl (A0 rfl) rfl I6 D4 rfl) ?_
 refine D6 2 rfl rfl rfl (A0 rfl) (A0 rfl) (E7 _) rfl D4 rfl ?_
 refine A4 ?_
 refine C5 ?_
 exact N5 [1, 0] (x5, v10_1) (trivial) rfl (by rfl) (S1 rfl (L1 (ys := _) 2 rfl rfl I6 D4 rfl))
theorem d8 (h : THeld) (hs : h.size ≤ 1048576) : FSpec Tryz.prog 225 [AV.agg h.cs] (AV.agg h.cs) :=
  T3 (Aq5 h hs) fun x _ => j6 (THeld.lc h x)
theorem AQ8 (l : List TCell) (hs : sizeL TCell.size l ≤ 4194304) : FSpec Tryz.prog 224 [AV.list 2 (l.map TCell.cs)] (AV.list 2 (l.map TCell.cs)) :=
  T3 (Ae6 l hs) fun x h => AH1 TCell.lcM h 0 rfl fun o ho => List.mem_cons_of_mem _ ho
theorem Am7 (s : TState) (hs : s.size ≤ 1048576) : GSpec Tryz.prog 199 [AV.agg s.cs] [] (fun _ : Value × Value => True) (fun x => TState.ow s x) (fun x => AV.agg (TState.ocs s x)) := by
 obtain ⟨hs1, hs2, hs3, hs4, hs5⟩ := V8 hs
 refine J9 Tryz.func199 rfl Tryz.ntmps199 rfl ?_
 refine A3 (A2 ?_)
 refine N8 rfl rfl rfl rfl (A0 rfl) ?_
 intro b1
 refine F9 rfl rfl rfl rfl Tryz.zeroValue43 rfl ?_
 intro b2
 refine A4 (A3 ?_)
 refine X7 _ 11 (.pure 0 (.pure 1 (.pure 2 (.pure 3 (.pure 4 (.pure 6 (.pure 7 (.e2 5 (.e2 8 (.pure 9 (.e1 10 .nil)) 10 (.e1 8 (.pure 9 .nil))) 10 (.e1 5 (.e1 8 (.pure 9 .nil))))))))))) (by kernel_rfl) (by kernel_rfl) rfl o4 ?_
 refine H0 rfl rfl rfl (fun ext => B1 0 rfl C0 rfl B3 (A0 rfl) rfl) ?_
 refine H0 rfl rfl rfl (fun ext => B0 1 rfl (A0 rfl) rfl B9 rfl) ?_
 refine H0 rfl rfl rfl (fun ext => B1 1 rfl C0 rfl N9 (A0 rfl) rfl) ?_
 refine H0 rfl rfl rfl (fun ext => B0 1 rfl (A0 rfl) rfl Q1 rfl) ?_
 refine H0 rfl rfl rfl (fun ext => E4 rfl Tryz.call224 rfl (AQ8 s.Cells (by omega)) (A7 (A0 rfl) C6)) ?_
 refine H0 rfl rfl rfl (fun ext => B1 3 rfl C0 rfl N2 (A0 rfl) rfl) ?_
 refine H0 rfl rfl rfl (fun ext => B0 1 rfl (A0 rfl) rfl T7 rfl) ?_
 refine AO1 ?_ ?_
 ·refine V0 rfl rfl rfl (Y1 rfl I0 K8) (fun a _ => (by first | exact F2 rfl | exact F2 (List.append_assoc _ _ _) | exact I7)) ?_
  intro v11 _
  refine AO1 ?_ ?_
  ·refine V0 rfl rfl rfl (g9 2 (fun _ => rfl) (O6 (by' := 24) 2 rfl I0 Tryz.type144 rfl rfl rfl rfl rfl rfl (A0 rfl) (A0 rfl) rfl (by simp only [L6, A8]; omega))) (fun a _ => (by first | exact F2 rfl | exact F2 (List.append_assoc _ _ _) | exact I7)) ?_
   intro v14_1 hone_v14_1
   have one_v14_1 := hone_v14_1.2
   refine H0 rfl rfl rfl (fun ext => O0 (places := #[(0, 1), (1, 1), (2, 1), (3, 1)]) rfl C0 Tryz.zeroValue43 (fun w => by kernel_rfl) rfl (D9 (A0 rfl) (K5 _ _) (D9 (A0 rfl) (U8 _ _) (D9 (A0 rfl) (V5 one_v14_1) H7))) rfl) ?_
   refine X8 ?_
   refine V0 rfl rfl rfl (o6 rfl Tryz.zeroValue43 rfl) (fun a _ => (by first | exact F2 rfl | exact F2 (List.append_assoc _ _ _) | exact I7)) ?_
   intro b3 _
   refine c5 ?_
   refine D6 3 rfl rfl rfl (A0 rfl) (A0 rfl) (E7 _) rfl C2 rfl ?_
   refine A4 (A3 (A3 (A2 ?_)))
   refine A1 rfl (B1 2 rfl C0 rfl G2 (A0 rfl) rfl) ?_
   refine A1 rfl (B0 1 rfl (A0 rfl) rfl L3 rfl) ?_
   refine A1 rfl (G9 rfl E1 (A0 rfl)) ?_
   refine A1 rfl (C1 rfl B6) ?_
   refine A4 (C8 ?_)
   refine a6 141 5 ?_
   refine AWP.le (H4 [4, 0] rfl) ?_
   refine Q0 [(2, _), (3, _), (17, _), (18, _)] _ (fun (i : Nat) (v : Value) => i ≤ s.Held.length) (fun (i : Nat) (v : Value) => [.box b3 43 [AV.int s.Floor, AV.list 2 (s.Cells.map TCell.cs), AV.is v, AV.is v14_1], .arr v 141 5 ((s.Held.take i).map THeld.cs)]) (fun (i : Nat) (v : Value) => [(19, AV.int i)]) (fun (i : Nat) (v : Value) => s.Held.length - i) (0) ((Value.slice none 0 0)) ?_ (P8 (by rfl) ⟨rfl, rfl, rfl, rfl, rfl, trivial⟩) ?_
   ·exact Nat.zero_le _
   intro i v hinv
   refine A3 (A2 ?_)
   refine A1 rfl (J6 rfl (A0 rfl) (A0 rfl)) ?_
   refine A4 (A3 ?_)
   refine C4 (A0 rfl) ?_ ?_
   ·intro h20
    have k20 := of_decide_eq_true h20; try simp only [A8] at k20
    have hlt : i < s.Held.length := by omega
    obtain ⟨h, hx⟩ := get_some hlt
    obtain ⟨g1, g2, g3, g4, g5⟩ := W9 hs2 hx
    refine C7 (A3 (C8 (A3 (A2 ?_))))
    refine A1 rfl (I9 rfl E1 D4 (A0 rfl) (A0 rfl) hx (by first | omega | (simp only [D3, A9, szR] at *; omega))) ?_
    refine A1 rfl (K6 rfl (A0 rfl) I6 D4) ?_
    refine F9 rfl rfl rfl rfl Tryz.zeroValue141 rfl ?_
    intro b5
    refine D6 0 rfl rfl rfl (A0 rfl) (A0 rfl) (E7 _) rfl D4 rfl ?_
    refine A4 ?_
    refine X2 5 (by kernel_rfl) (by kernel_rfl) rfl ?_
    refine B2 rfl rfl (B1 2 rfl C0 rfl G2 (A0 rfl) rfl) ?_
    refine B2 rfl rfl (B0 1 rfl (A0 rfl) rfl L3 rfl) ?_
    refine B2 rfl rfl (F7 0 rfl (A0 rfl) rfl I6 D4 rfl) ?_
    refine B2 rfl rfl (E4 rfl Tryz.call225 rfl (d8 _ (by first | assumption | omega)) (A7 (A0 rfl) C6)) ?_
    refine B2 rfl rfl (L0 rfl E1 D4 Tryz.zeroValue141 rfl rfl rfl rfl (D9 (A0 rfl) (E7 _) H7) rfl rfl) ?_
    refine P1 ?_
    refine M0 (by' := 72) 2 rfl rfl rfl rfl E1 Tryz.type141 rfl rfl rfl rfl rfl rfl (A0 rfl) (A0 rfl) rfl (by simp only [A8, F0, A9]; omega) ?_
    intro v28_2
    refine A1 rfl (B1 2 rfl C0 rfl G2 (A0 rfl) rfl) ?_
    refine W4 2 rfl fun one_v28_2 => ?_
    refine K4 1 rfl rfl rfl (A0 rfl) (A0 rfl) (V5 one_v28_2) rfl G2 rfl ?_
    refine A4 (A2 ?_)
    refine A1 rfl (G8 rfl (A0 rfl) B6 (by first | omega | (simp only [D3, A9, szR] at *; omega))) ?_
    refine A5 rfl ?_
    refine A4 ?_
    refine O4 i v (i + 1) (v28_2) ?_ ?_ (Le.trans (H4 [0, 0, 0] rfl) (L7 1 (by exact congrArg (fun z => Own.box b3 43 [AV.int s.Floor, AV.list 2 (s.Cells.map TCell.cs), AV.is v28_2, AV.is v14_1] :: Own.arr v28_2 141 5 z :: _) (Y2 (f := THeld.cs) hx)) ⟨rfl, rfl, rfl, rfl, rfl, trivial⟩))
    ·omega
    omega
   intro h20
   have k20 := of_decide_eq_false h20; try simp only [A8] at k20
   have hge : i = s.Held.length := by omega
   rw [hge, List.take_length]
   refine G6 ?_
   refine A3 (A2 ?_)
   refine A1 rfl (F7 0 rfl (A0 rfl) rfl E2 C2 rfl) ?_
   refine D6 2 rfl rfl rfl (A0 rfl) (A0 rfl) (E7 _) rfl C2 rfl ?_
   refine A4 ?_
   refine C5 ?_
   exact N5 [1, 3] (v, v14_1) (trivial) rfl (by rfl) (S1 rfl (L1 (ys := _) 2 rfl rfl E2 C2 rfl))
  refine V0 rfl rfl rfl (o6 rfl Tryz.zeroValue43 rfl) (fun a _ => (by first | exact F2 rfl | exact F2 (List.append_assoc _ _ _) | exact I7)) ?_
  intro b3 _
  refine X8 ?_
  refine V0 rfl rfl rfl (g9 2 (fun _ => rfl) (O6 (by' := 24) 2 rfl I0 Tryz.type144 rfl rfl rfl rfl rfl rfl (A0 rfl) (A0 rfl) rfl (by simp only [L6, A8]; omega))) (fun a _ => (by first | exact F2 rfl | exact F2 (List.append_assoc _ _ _) | exact I7)) ?_
  intro v14_3 hone_v14_3
  have one_v14_3 := hone_v14_3.2
  refine H0 rfl rfl rfl (fun ext => O0 (places := #[(0, 1), (1, 1), (2, 1), (3, 1)]) rfl C0 Tryz.zeroValue43 (fun w => by kernel_rfl) rfl (D9 (A0 rfl) (K5 _ _) (D9 (A0 rfl) (U8 _ _) (D9 (A0 rfl) (V5 one_v14_3) H7))) rfl) ?_
  refine c5 ?_
  refine D6 3 rfl rfl rfl (A0 rfl) (A0 rfl) (E7 _) rfl C2 rfl ?_
  refine A4 (A3 (A3 (A2 ?_)))
  refine A1 rfl (B1 2 rfl C0 rfl G2 (A0 rfl) rfl) ?_
  refine A1 rfl (B0 1 rfl (A0 rfl) rfl L3 rfl) ?_
  refine A1 rfl (G9 rfl E1 (A0 rfl)) ?_
  refine A1 rfl (C1 rfl B6) ?_
  refine A4 (C8 ?_)
  refine a6 141 5 ?_
  refine AWP.le (H4 [4, 0] rfl) ?_
  refine Q0 [(2, _), (3, _), (17, _), (18, _)] _ (fun (i : Nat) (v : Value) => i ≤ s.Held.length) (fun (i : Nat) (v : Value) => [.box b3 43 [AV.int s.Floor, AV.list 2 (s.Cells.map TCell.cs), AV.is v, AV.is v14_3], .arr v 141 5 ((s.Held.take i).map THeld.cs)]) (fun (i : Nat) (v : Value) => [(19, AV.int i)]) (fun (i : Nat) (v : Value) => s.Held.length - i) (0) ((Value.slice none 0 0)) ?_ (P8 (by rfl) ⟨rfl, rfl, rfl, rfl, rfl, trivial⟩) ?_
  ·exact Nat.zero_le _
  intro i v hinv
  refine A3 (A2 ?_)
  refine A1 rfl (J6 rfl (A0 rfl) (A0 rfl)) ?_
  refine A4 (A3 ?_)
  refine C4 (A0 rfl) ?_ ?_
  ·intro h20
   have k20 := of_decide_eq_true h20; try simp only [A8] at k20
   have hlt : i < s.Held.length := by omega
   obtain ⟨h, hx⟩ := get_some hlt
   obtain ⟨g1, g2, g3, g4, g5⟩ := W9 hs2 hx
   refine C7 (A3 (C8 (A3 (A2 ?_))))
   refine A1 rfl (I9 rfl E1 D4 (A0 rfl) (A0 rfl) hx (by first | omega | (simp only [D3, A9, szR] at *; omega))) ?_
   refine A1 rfl (K6 rfl (A0 rfl) I6 D4) ?_
   refine F9 rfl rfl rfl rfl Tryz.zeroValue141 rfl ?_
   intro b5
   refine D6 0 rfl rfl rfl (A0 rfl) (A0 rfl) (E7 _) rfl D4 rfl ?_
   refine A4 ?_
   refine X2 5 (by kernel_rfl) (by kernel_rfl) rfl ?_
   refine B2 rfl rfl (B1 2 rfl C0 rfl G2 (A0 rfl) rfl) ?_
   refine B2 rfl rfl (B0 1 rfl (A0 rfl) rfl L3 rfl) ?_
   refine B2 rfl rfl (F7 0 rfl (A0 rfl) rfl I6 D4 rfl) ?_
   refine B2 rfl rfl (E4 rfl Tryz.call225 rfl (d8 _ (by first | assumption | omega)) (A7 (A0 rfl) C6)) ?_
   refine B2 rfl rfl (L0 rfl E1 D4 Tryz.zeroValue141 rfl rfl rfl rfl (D9 (A0 rfl) (E7 _) H7) rfl rfl) ?_
   refine P1 ?_
   refine M0 (by' := 72) 2 rfl rfl rfl rfl E1 Tryz.type141 rfl rfl rfl rfl rfl rfl (A0 rfl) (A0 rfl) rfl (by simp only [A8, F0, A9]; omega) ?_
   intro v28_4
   refine A1 rfl (B1 2 rfl C0 rfl G2 (A0 rfl) rfl) ?_
   refine W4 2 rfl fun one_v28_4 => ?_
   refine K4 1 rfl rfl rfl (A0 rfl) (A0 rfl) (V5 one_v28_4) rfl G2 rfl ?_
   refine A4 (A2 ?_)
   refine A1 rfl (G8 rfl (A0 rfl) B6 (by first | omega | (simp only [D3, A9, szR] at *; omega))) ?_
   refine A5 rfl ?_
   refine A4 ?_
   refine O4 i v (i + 1) (v28_4) ?_ ?_ (Le.trans (H4 [0, 0, 0] rfl) (L7 1 (by exact congrArg (fun z => Own.box b3 43 [AV.int s.Floor, AV.list 2 (s.Cells.map TCell.cs), AV.is v28_4, AV.is v14_3] :: Own.arr v28_4 141 5 z :: _) (Y2 (f := THeld.cs) hx)) ⟨rfl, rfl, rfl, rfl, rfl, trivial⟩))
   ·omega
   omega
  intro h20
  have k20 := of_decide_eq_false h20; try simp only [A8] at k20
  have hge : i = s.Held.length := by omega
  rw [hge, List.take_length]
  refine G6 ?_
  refine A3 (A2 ?_)
  refine A1 rfl (F7 0 rfl (A0 rfl) rfl E2 C2 rfl) ?_
  refine D6 2 rfl rfl rfl (A0 rfl) (A0 rfl) (E7 _) rfl C2 rfl ?_
  refine A4 ?_
  refine C5 ?_
  exact N5 [1, 3] (v, v14_3) (trivial) rfl (by rfl) (S1 rfl (L1 (ys := _) 2 rfl rfl E2 C2 rfl))
 refine V0 rfl rfl rfl (o6 rfl Tryz.zeroValue43 rfl) (fun a _ => (by first | exact F2 rfl | exact F2 (List.append_assoc _ _ _) | exact I7)) ?_
 intro b3 _
 refine X8 ?_
 refine V0 rfl rfl rfl (Y1 rfl I0 K8) (fun a _ => (by first | exact F2 rfl | exact F2 (List.append_assoc _ _ _) | exact I7)) ?_
 intro v11 _
 refine X8 ?_
 refine V0 rfl rfl rfl (g9 3 (fun _ => rfl) (O6 (by' := 24) 3 rfl I0 Tryz.type144 rfl rfl rfl rfl rfl rfl (A0 rfl) (A0 rfl) rfl (by simp only [L6, A8]; omega))) (fun a _ => (by first | exact F2 rfl | exact F2 (List.append_assoc _ _ _) | exact I7)) ?_
 intro v14_5 hone_v14_5
 have one_v14_5 := hone_v14_5.2
 refine H0 rfl rfl rfl (fun ext => O0 (places := #[(0, 1), (1, 1), (2, 1), (3, 1)]) rfl C0 Tryz.zeroValue43 (fun w => by kernel_rfl) rfl (D9 (A0 rfl) (K5 _ _) (D9 (A0 rfl) (U8 _ _) (D9 (A0 rfl) (V5 one_v14_5) H7))) rfl) ?_
 refine c5 ?_
 refine D6 2 rfl rfl rfl (A0 rfl) (A0 rfl) (E7 _) rfl C2 rfl ?_
 refine A4 (A3 (A3 (A2 ?_)))
 refine A1 rfl (B1 2 rfl C0 rfl G2 (A0 rfl) rfl) ?_
 refine A1 rfl (B0 1 rfl (A0 rfl) rfl L3 rfl) ?_
 refine A1 rfl (G9 rfl E1 (A0 rfl)) ?_
 refine A1 rfl (C1 rfl B6) ?_
 refine A4 (C8 ?_)
 refine a6 141 5 ?_
 refine AWP.le (H4 [3, 0] rfl) ?_
 refine Q0 [(2, _), (3, _), (17, _), (18, _)] _ (fun (i : Nat) (v : Value) => i ≤ s.Held.length) (fun (i : Nat) (v : Value) => [.box b3 43 [AV.int s.Floor, AV.list 2 (s.Cells.map TCell.cs), AV.is v, AV.is v14_5], .arr v 141 5 ((s.Held.take i).map THeld.cs)]) (fun (i : Nat) (v : Value) => [(19, AV.int i)]) (fun (i : Nat) (v : Value) => s.Held.length - i) (0) ((Value.slice none 0 0)) ?_ (P8 (by rfl) ⟨rfl, rfl, rfl, rfl, rfl, trivial⟩) ?_
 ·exact Nat.zero_le _
 intro i v hinv
 refine A3 (A2 ?_)
 refine A1 rfl (J6 rfl (A0 rfl) (A0 rfl)) ?_
 refine A4 (A3 ?_)
 refine C4 (A0 rfl) ?_ ?_
 ·intro h20
  have k20 := of_decide_eq_true h20; try simp only [A8] at k20
  have hlt : i < s.Held.length := by omega
  obtain ⟨h, hx⟩ := get_some hlt
  obtain ⟨g1, g2, g3, g4, g5⟩ := W9 hs2 hx
  refine C7 (A3 (C8 (A3 (A2 ?_))))
  refine A1 rfl (I9 rfl E1 D4 (A0 rfl) (A0 rfl) hx (by first | omega | (simp only [D3, A9, szR] at *; omega))) ?_
  refine A1 rfl (K6 rfl (A0 rfl) I6 D4) ?_
  refine F9 rfl rfl rfl rfl Tryz.zeroValue141 rfl ?_
  intro b5
  refine D6 0 rfl rfl rfl (A0 rfl) (A0 rfl) (E7 _) rfl D4 rfl ?_
  refine A4 ?_
  refine X2 5 (by kernel_rfl) (by kernel_rfl) rfl ?_
  refine B2 rfl rfl (B1 2 rfl C0 rfl G2 (A0 rfl) rfl) ?_
  refine B2 rfl rfl (B0 1 rfl (A0 rfl) rfl L3 rfl) ?_
  refine B2 rfl rfl (F7 0 rfl (A0 rfl) rfl I6 D4 rfl) ?_
  refine B2 rfl rfl (E4 rfl Tryz.call225 rfl (d8 _ (by first | assumption | omega)) (A7 (A0 rfl) C6)) ?_
  refine B2 rfl rfl (L0 rfl E1 D4 Tryz.zeroValue141 rfl rfl rfl rfl (D9 (A0 rfl) (E7 _) H7) rfl rfl) ?_
  refine P1 ?_
  refine M0 (by' := 72) 2 rfl rfl rfl rfl E1 Tryz.type141 rfl rfl rfl rfl rfl rfl (A0 rfl) (A0 rfl) rfl (by simp only [A8, F0, A9]; omega) ?_
  intro v28_6
  refine A1 rfl (B1 2 rfl C0 rfl G2 (A0 rfl) rfl) ?_
  refine W4 2 rfl fun one_v28_6 => ?_
  refine K4 1 rfl rfl rfl (A0 rfl) (A0 rfl) (V5 one_v28_6) rfl G2 rfl ?_
  refine A4 (A2 ?_)
  refine A1 rfl (G8 rfl (A0 rfl) B6 (by first | omega | (simp only [D3, A9, szR] at *; omega))) ?_
  refine A5 rfl ?_
  refine A4 ?_
  refine O4 i v (i + 1) (v28_6) ?_ ?_ (Le.trans (H4 [0, 0, 0] rfl) (L7 1 (by exact congrArg (fun z => Own.box b3 43 [AV.int s.Floor, AV.list 2 (s.Cells.map TCell.cs), AV.is v28_6, AV.is v14_5] :: Own.arr v28_6 141 5 z :: _) (Y2 (f := THeld.cs) hx)) ⟨rfl, rfl, rfl, rfl, rfl, trivial⟩))
  ·omega
  omega
 intro h20
 have k20 := of_decide_eq_false h20; try simp only [A8] at k20
 have hge : i = s.Held.length := by omega
 rw [hge, List.take_length]
 refine G6 ?_
 refine A3 (A2 ?_)
 refine A1 rfl (F7 0 rfl (A0 rfl) rfl E2 C2 rfl) ?_
 refine D6 2 rfl rfl rfl (A0 rfl) (A0 rfl) (E7 _) rfl C2 rfl ?_
 refine A4 ?_
 refine C5 ?_
 exact N5 [1, 3] (v, v14_5) (trivial) rfl (by rfl) (S1 rfl (L1 (ys := _) 2 rfl rfl E2 C2 rfl))
theorem Ah9 (s : TState) (hs : s.size ≤ 1048576) : FSpec Tryz.prog 199 [AV.agg s.cs] (AV.agg s.cs) :=
  T3 (Am7 s hs) fun x _ => j6 (TState.lc s x)
theorem AT4 (l : List THeld) (n : Int) (hl : l.length ≤ 1048576) : GSpec Tryz.prog 205 [AV.list 5 (l.map THeld.cs), AV.int n] [] (fun _ : Value => True) (fun v => [.arr v 141 5 ((lessH l n).map THeld.cs)]) (fun v => AV.is v) := by
 refine J9 Tryz.func205 rfl Tryz.ntmps205 rfl ?_
 refine A3 (A2 ?_)
 refine A1 rfl (B7 rfl O7) ?_
 refine A4 (A3 (A2 ?_))
 refine j5 141 5 rfl rfl rfl rfl O7 ?_
 intro v5
 refine A4 (A3 (A3 (A2 ?_)))
 refine A5 rfl ?_
 refine A1 rfl (G9 rfl E1 (A0 rfl)) ?_
 refine A1 rfl (C1 rfl B6) ?_
 refine A4 (C8 ?_)
 refine X0 [(1, _), (4, _), (8, _), (9, _)] _ (fun (i : Nat) (v : Value) (q : List THeld) => i ≤ l.length ∧ q = lessH (l.take i) n ∧ q.length ≤ i) (fun (i : Nat) (v : Value) (q : List THeld) => [.arr v 141 5 (q.map THeld.cs)]) (fun (i : Nat) (v : Value) (q : List THeld) => [(5, AV.is v), (10, AV.int i)]) (fun (i : Nat) (v : Value) (q : List THeld) => l.length - i) (0) (v5) ([]) ?_ (P8 (by rfl) ⟨rfl, rfl, rfl, rfl, rfl, rfl, trivial⟩) ?_
 ·exact ⟨Nat.zero_le _, rfl, Nat.le_refl _⟩
 intro i v q hinv
 refine A3 (A2 ?_)
 refine A1 rfl (J6 rfl (A0 rfl) (A0 rfl)) ?_
 refine A4 (A3 ?_)
 refine C4 (A0 rfl) ?_ ?_
 ·intro h11
  have k11 := of_decide_eq_true h11; try simp only [A8] at k11
  have hlt : i < l.length := by omega
  obtain ⟨h, hx⟩ := get_some hlt
  refine C7 (A3 (C8 (A3 (A2 ?_))))
  refine A1 rfl (I9 rfl E1 D4 (A0 rfl) (A0 rfl) hx (by first | omega | (simp only [D3, A9, szR] at *; omega))) ?_
  refine A1 rfl (K6 rfl (A0 rfl) I6 D4) ?_
  refine F9 rfl rfl rfl rfl Tryz.zeroValue141 rfl ?_
  intro b7
  refine D6 0 rfl rfl rfl (A0 rfl) (A0 rfl) (E7 _) rfl D4 rfl ?_
  refine A4 (A3 (A2 ?_))
  refine A1 rfl (B1 0 rfl F1 rfl B3 (A0 rfl) rfl) ?_
  refine A1 rfl (B0 0 rfl (A0 rfl) rfl B9 rfl) ?_
  refine A5 rfl ?_
  refine A1 rfl (y9 rfl (A0 rfl) (A0 rfl)) ?_
  refine A4 ?_
  refine C4 (A0 rfl) ?_ ?_
  ·intro h17
   have k17 := u7 h17; try simp only [A8] at k17
   refine A2 ?_
   refine A5 rfl ?_
   refine A1 rfl (F7 0 rfl (A0 rfl) rfl I6 D4 rfl) ?_
   refine A1 rfl (L0 rfl E1 D4 Tryz.zeroValue141 rfl rfl rfl rfl (D9 (A0 rfl) (E7 _) H7) rfl rfl) ?_
   refine M0 (by' := 72) 1 rfl rfl rfl rfl E1 Tryz.type141 rfl rfl rfl rfl rfl rfl (A0 rfl) (A0 rfl) rfl (by first | omega | (simp only [D3, A9, szR] at *; omega)) ?_
   intro v21_1
   refine B5 rfl ?_
   refine A4 (A2 ?_)
   refine A1 rfl (G8 rfl (A0 rfl) B6 (by first | omega | (simp only [D3, A9, szR] at *; omega))) ?_
   refine A5 rfl ?_
   refine A4 ?_
   refine W0 i v q (i + 1) (v21_1) (q ++ [h]) ?_ ?_ (Le.trans (H4 [0, 0] rfl) (L7 1 (by first | rfl | (rw [List.map_append]; rfl)) ⟨rfl, rfl, rfl, rfl, rfl, rfl, trivial⟩))
   ·first | exact ⟨by omega, by rw [AD6 hx, if_pos h17, hinv.2.1], by rw [I5]; simp; omega⟩ | exact ⟨by omega, by rw [AD6 hx, if_neg (by rw [h17]; decide), hinv.2.1], by omega⟩
   omega
  intro h17
  have k17 := c4 h17; try simp only [A8] at k17
  refine C7 (A2 ?_)
  refine A1 rfl (G8 rfl (A0 rfl) B6 (by first | omega | (simp only [D3, A9, szR] at *; omega))) ?_
  refine A5 rfl ?_
  refine A4 ?_
  refine W0 i v q (i + 1) (v) (q) ?_ ?_ (Le.trans (H4 [0, 0] rfl) (L7 1 (by first | rfl | (rw [List.map_append]; rfl)) ⟨rfl, rfl, rfl, rfl, rfl, rfl, trivial⟩))
  ·first | exact ⟨by omega, by rw [AD6 hx, if_pos h17, hinv.2.1], by rw [I5]; simp; omega⟩ | exact ⟨by omega, by rw [AD6 hx, if_neg (by rw [h17]; decide), hinv.2.1], by omega⟩
  omega
 intro h11
 have k11 := of_decide_eq_false h11; try simp only [A8] at k11
 have hge : l.length ≤ i := by omega
 have hq := hinv.2.1
 rw [List.take_of_length_le hge] at hq
 rw [← hq]
 refine G6 ?_
 refine A3 (A2 ?_)
 refine A5 rfl ?_
 refine B5 rfl ?_
 refine A4 ?_
 refine C5 ?_
 exact N5 [0] v (trivial) rfl (by rfl) (S1 rfl (C3 rfl (by rfl)))
theorem Af2 (l : List THeld) (n : Int) (hl : l.length ≤ 1048576) : FSpec Tryz.prog 205 [AV.list 5 (l.map THeld.cs), AV.int n] (AV.list 5 ((lessH l n).map THeld.cs)) :=
  T3 (AT4 l n hl) fun x _ => N1 (List.mem_singleton.2 rfl) J4
theorem put_csH (l : List THeld) (k : Nat) (x : THeld) : (l.take k ++ x :: l.drop k).map THeld.cs = [] ++ (l.take (k : Int).toNat).map THeld.cs ++ [x.cs] ++ ([] ++ (l.drop (k : Int).toNat).map THeld.cs) := by simp
theorem AQ9 (l : List THeld) (h : THeld) (hs : l.Pairwise fun a b => a.Txn < b.Txn) (hl : l.length ≤ 1048576) : GSpec Tryz.prog 201 [AV.list 5 (l.map THeld.cs), AV.agg h.cs] [] (fun _ : Value => True) (fun v => [.arr v 141 5 ((insH h l).map THeld.cs)]) (fun v => AV.is v) := by
 refine J9 Tryz.func201 rfl Tryz.ntmps201 rfl ?_
 refine A3 (A2 ?_)
 refine N8 rfl rfl rfl rfl (A0 rfl) ?_
 intro b3
 refine A1 rfl (B7 rfl O7) ?_
 refine A4 (A3 (A2 ?_))
 refine A5 rfl ?_
 refine A1 rfl (G9 rfl E1 (A0 rfl)) ?_
 refine B5 rfl ?_
 refine A4 (A3 (C8 ?_))
 refine J1 [(0, _), (3, _), (4, _)] _ (fun (k : Nat) => k ≤ l.length ∧ ∀ i y, k ≤ i → l[i]? = some y → h.Txn < y.Txn) (fun (k : Nat) => []) (fun (k : Nat) => [(5, AV.int k)]) (fun (k : Nat) => k) (l.length) ?_ (K0 ⟨congrArg (fun z => some (AV.int z)) (by rw [A8]), rfl, rfl, rfl, trivial⟩) ?_
 ·exact ⟨Nat.le_refl _, fun i y h1 h2 => by (have := (List.getElem?_eq_some_iff.1 h2).1; omega)⟩
 intro k hinv
 obtain ⟨y, hy0⟩ : ∃ y : THeld, 0 < k → l[k - 1]? = some y := by (by_cases h9 : 0 < k; (have h8 := hinv.1; exact ⟨_, fun _ => List.getElem?_eq_getElem (show k - 1 < l.length by omega)⟩); exact ⟨h, fun h8 => absurd h8 h9⟩)
 have hk1 : 0 < k → ((k : Int) - 1).toNat = k - 1 := fun _ => by omega
 refine A3 (A3 ?_)
 refine I8 (by kernel_rfl) (by kernel_rfl) rfl ?_
 refine B2 rfl rfl (C1 rfl (A0 rfl)) ?_
 refine B2 rfl rfl (O5 rfl (A0 rfl) B6) ?_
 refine B2 rfl rfl (C1 rfl (A0 rfl)) ?_
 refine D2 rfl (H1 rfl rfl rfl) (fun hc => C1 rfl (A0 rfl)) ?_
 refine D2 rfl (H1 rfl rfl rfl) (fun hc => C1 rfl (A0 rfl)) ?_
 refine D2 rfl (H1 rfl rfl rfl) (fun hc => Q3 rfl (A6 rfl hc) B6 (by first | omega | ((try simp only [D3, A9, szR] at *); omega) | (have hc2 := hc; simp only [P3, beq_iff_eq, bne_iff_ne, A8, F0] at hc2; omega))) ?_
 refine D2 rfl (H1 rfl rfl rfl) (fun hc => i6 rfl E1 D4 (A6 rfl hc) (A6 rfl hc) (by have := of_decide_eq_true hc; have := hinv.1; omega) (by have h9 := of_decide_eq_true hc; rw [hk1 (by omega), List.getElem?_map, hy0 (by omega)]; rfl)) ?_
 refine D2 rfl (H1 rfl rfl rfl) (fun hc => V1 rfl F1 rfl B3 (A6 rfl hc) rfl) ?_
 refine D2 rfl (H1 rfl rfl rfl) (fun hc => N4 rfl (A6 rfl hc) B9 rfl) ?_
 refine D2 rfl (H1 rfl rfl rfl) (fun hc => B1 0 rfl F1 rfl B3 (A0 rfl) rfl) ?_
 refine D2 rfl (H1 rfl rfl rfl) (fun hc => B0 0 rfl (A6 rfl hc) rfl B9 rfl) ?_
 refine D2 rfl (H1 rfl rfl rfl) (fun hc => O5 rfl (A6 rfl hc) (A6 rfl hc)) ?_
 refine B2 rfl rfl (H6 rfl (A0 rfl) (F6 rfl)) ?_
 refine P1 ?_
 refine C4 (A0 rfl) ?_ ?_
 ·intro h21
  have hkt : 0 < k ∧ h.Txn < y.Txn := by simpa using h21
  refine C7 (C8 (A2 ?_))
  refine A5 rfl ?_
  refine A1 rfl (Q3 rfl (A0 rfl) B6 (by first | omega | (simp only [D3, A9, szR] at *; omega))) ?_
  refine B5 rfl ?_
  refine A4 ?_
  refine i8 ?_
  refine L4 k (k - 1) ?_ ?_ (K0 ⟨congrArg (fun z => some (AV.int z)) (by omega), rfl, rfl, rfl, trivial⟩)
  ·exact ⟨by omega, fun i z hi hz => if e : k ≤ i then hinv.2 i z e hz else (by have e2 : i = k - 1 := (by omega); subst e2; rw [hy0 hkt.1] at hz; injection hz with hz; subst hz; exact hkt.2)⟩
  omega
 intro h21
 have hng : 0 < k → ¬ h.Txn < y.Txn := fun h9 => by simpa [h9] using h21
 have hput : insH h l = l.take k ++ h :: l.drop k := Ae8 hinv.1 (fun i x hi hx => by have h7 := hy0 (by omega); have h8 := hng (by omega); rcases Nat.lt_or_ge i (k - 1) with h6 | h6; (have := AO4 (f := THeld.Txn) hs h6 hx h7; omega); (have : i = k - 1 := (by omega); subst this; rw [hx] at h7; injection h7 with h7; subst h7; omega)) (fun x hx => hinv.2 k x (Nat.le_refl _) hx)
 rw [hput]
 refine G6 ?_
 refine A3 (A2 ?_)
 refine R7 rfl rfl rfl rfl E1 D4 ?_
 intro v24
 refine A5 rfl ?_
 refine A5 rfl ?_
 refine A1 rfl (Ab5 rfl E1 D4 (A0 rfl) (A0 rfl) (by omega) (by first | omega | (simp only [A8]; omega))) ?_
 refine M0 (by' := 72) 0 rfl rfl rfl rfl E1 Tryz.type141 rfl rfl rfl rfl rfl rfl (A0 rfl) (A0 rfl) rfl (by simp only [L6, A8, List.length_drop]; omega) ?_
 intro v28_1
 refine B5 rfl ?_
 refine A4 (A3 ?_)
 refine AWP.le (Y8 [0] 6 rfl rfl (N1 (G4 (i := 0) rfl) J4) R5) ?_
 refine U4 _ [(1, false), (2, false), (3, false), (5, false), (6, false), (8, false), (0, true), (4, true), (7, true), (9, true)] (by kernel_rfl) (by kernel_rfl) rfl o4 ?_
 refine G1 rfl rfl rfl (fun ext => C1 rfl (A0 rfl)) ?_
 refine G1 rfl rfl rfl (fun ext => C1 rfl (A0 rfl)) ?_
 refine G1 rfl rfl rfl (fun ext => AC6 rfl E1 D4 (A0 rfl) (A0 rfl) (by omega) (by first | omega | (simp only [A8]; omega))) ?_
 refine G1 rfl rfl rfl (fun ext => F7 0 rfl (A0 rfl) rfl I6 D4 rfl) ?_
 refine G1 rfl rfl rfl (fun ext => L0 rfl E1 D4 Tryz.zeroValue141 rfl rfl rfl rfl (D9 (A0 rfl) (E7 _) H7) rfl rfl) ?_
 refine G1 rfl rfl rfl (fun ext => C1 rfl (A0 rfl)) ?_
 refine U2 rfl rfl rfl (Y1 rfl E1 D4) (fun a _ => (by first | exact F2 rfl | exact F2 (List.append_assoc _ _ _) | exact I7)) ?_
 intro v29 _
 refine U2 rfl rfl rfl (O6 (by' := 72) 1 rfl E1 Tryz.type141 rfl rfl rfl rfl rfl rfl (A0 rfl) (A0 rfl) rfl (by simp only [L6, List.nil_append, I5, F0, List.length_drop, J3, A8, A9]; omega)) (fun a _ => (by first | exact F2 rfl | exact F2 (List.append_assoc _ _ _) | exact I7)) ?_
 intro v33_2 _
 refine U2 rfl rfl rfl (O6 (by' := 72) 1 rfl E1 Tryz.type141 rfl rfl rfl rfl rfl rfl (A0 rfl) (A0 rfl) rfl (by simp only [L6, List.nil_append, I5, F0, List.length_drop, J3, A8, A9]; omega)) (fun a _ => (by first | exact F2 rfl | exact F2 (List.append_assoc _ _ _) | exact I7)) ?_
 intro v36_3 _
 refine U2 rfl rfl rfl (O6 (by' := 72) 1 rfl E1 Tryz.type141 rfl rfl rfl rfl rfl rfl (A0 rfl) (A0 rfl) rfl (by simp only [L6, List.nil_append, I5, F0, List.length_drop, J3, A8, A9]; omega)) (fun a _ => (by first | exact F2 rfl | exact F2 (List.append_assoc _ _ _) | exact I7)) ?_
 intro v38_4 _
 refine j7 ?_
 refine B5 rfl ?_
 refine A4 ?_
 refine C5 ?_
 exact N5 [1] v38_4 (trivial) rfl (by first | rfl | exact congrArg (fun z => [Own.arr _ 141 5 z]) (put_csH _ _ _)) (S1 rfl (C3 rfl (by rfl)))
theorem Am8 (l : List THeld) (h : THeld) (hs : l.Pairwise fun a b => a.Txn < b.Txn) (hl : l.length ≤ 1048576) : FSpec Tryz.prog 201 [AV.list 5 (l.map THeld.cs), AV.agg h.cs] (AV.list 5 ((insH h l).map THeld.cs)) :=
  T3 (AQ9 l h hs hl) fun x _ => N1 (List.mem_singleton.2 rfl) J4
theorem put_csT (l : List TTold) (k : Nat) (x : TTold) : (l.take k ++ x :: l.drop k).map TTold.cs = [] ++ (l.take (k : Int).toNat).map TTold.cs ++ [x.cs] ++ ([] ++ (l.drop (k : Int).toNat).map TTold.cs) := by simp
theorem AF0 (l : List TTold) (h : TTold) (hs : l.Pairwise fun a b => a.Txn < b.Txn) (hl : l.length ≤ 1048576) : GSpec Tryz.prog 206 [AV.list 3 (l.map TTold.cs), AV.agg h.cs] [] (fun _ : Value => True) (fun v => [.arr v 144 3 ((insT h l).map TTold.cs)]) (fun v => AV.is v) := by
 refine J9 Tryz.func206 rfl Tryz.ntmps206 rfl ?_
 refine A3 (A2 ?_)
 refine N8 rfl rfl rfl rfl (A0 rfl) ?_
 intro b3
 refine A1 rfl (B7 rfl O7) ?_
 refine A4 (A3 (A2 ?_))
 refine A5 rfl ?_
 refine A1 rfl (G9 rfl I0 (A0 rfl)) ?_
 refine B5 rfl ?_
 refine A4 (A3 (C8 ?_))
 refine J1 [(0, _), (3, _), (4, _)] _ (fun (k : Nat) => k ≤ l.length ∧ ∀ i y, k ≤ i → l[i]? = some y → h.Txn < y.Txn) (fun (k : Nat) => []) (fun (k : Nat) => [(5, AV.int k)]) (fun (k : Nat) => k) (l.length) ?_ (K0 ⟨congrArg (fun z => some (AV.int z)) (by rw [A8]), rfl, rfl, rfl, trivial⟩) ?_
 ·exact ⟨Nat.le_refl _, fun i y h1 h2 => by (have := (List.getElem?_eq_some_iff.1 h2).1; omega)⟩
 intro k hinv
 obtain ⟨y, hy0⟩ : ∃ y : TTold, 0 < k → l[k - 1]? = some y := by (by_cases h9 : 0 < k; (have h8 := hinv.1; exact ⟨_, fun _ => List.getElem?_eq_getElem (show k - 1 < l.length by omega)⟩); exact ⟨h, fun h8 => absurd h8 h9⟩)
 have hk1 : 0 < k → ((k : Int) - 1).toNat = k - 1 := fun _ => by omega
 refine A3 (A3 ?_)
 refine I8 (by kernel_rfl) (by kernel_rfl) rfl ?_
 refine B2 rfl rfl (C1 rfl (A0 rfl)) ?_
 refine B2 rfl rfl (O5 rfl (A0 rfl) B6) ?_
 refine B2 rfl rfl (C1 rfl (A0 rfl)) ?_
 refine D2 rfl (H1 rfl rfl rfl) (fun hc => C1 rfl (A0 rfl)) ?_
 refine D2 rfl (H1 rfl rfl rfl) (fun hc => C1 rfl (A0 rfl)) ?_
 refine D2 rfl (H1 rfl rfl rfl) (fun hc => Q3 rfl (A6 rfl hc) B6 (by first | omega | ((try simp only [D3, A9, szR] at *); omega) | (have hc2 := hc; simp only [P3, beq_iff_eq, bne_iff_ne, A8, F0] at hc2; omega))) ?_
 refine D2 rfl (H1 rfl rfl rfl) (fun hc => i6 rfl I0 K8 (A6 rfl hc) (A6 rfl hc) (by have := of_decide_eq_true hc; have := hinv.1; omega) (by have h9 := of_decide_eq_true hc; rw [hk1 (by omega), List.getElem?_map, hy0 (by omega)]; rfl)) ?_
 refine D2 rfl (H1 rfl rfl rfl) (fun hc => V1 rfl K9 rfl B3 (A6 rfl hc) rfl) ?_
 refine D2 rfl (H1 rfl rfl rfl) (fun hc => N4 rfl (A6 rfl hc) B9 rfl) ?_
 refine D2 rfl (H1 rfl rfl rfl) (fun hc => B1 0 rfl K9 rfl B3 (A0 rfl) rfl) ?_
 refine D2 rfl (H1 rfl rfl rfl) (fun hc => B0 0 rfl (A6 rfl hc) rfl B9 rfl) ?_
 refine D2 rfl (H1 rfl rfl rfl) (fun hc => O5 rfl (A6 rfl hc) (A6 rfl hc)) ?_
 refine B2 rfl rfl (H6 rfl (A0 rfl) (F6 rfl)) ?_
 refine P1 ?_
 refine C4 (A0 rfl) ?_ ?_
 ·intro h21
  have hkt : 0 < k ∧ h.Txn < y.Txn := by simpa using h21
  refine C7 (C8 (A2 ?_))
  refine A5 rfl ?_
  refine A1 rfl (Q3 rfl (A0 rfl) B6 (by first | omega | (simp only [D3, A9, szR] at *; omega))) ?_
  refine B5 rfl ?_
  refine A4 ?_
  refine i8 ?_
  refine L4 k (k - 1) ?_ ?_ (K0 ⟨congrArg (fun z => some (AV.int z)) (by omega), rfl, rfl, rfl, trivial⟩)
  ·exact ⟨by omega, fun i z hi hz => if e : k ≤ i then hinv.2 i z e hz else (by have e2 : i = k - 1 := (by omega); subst e2; rw [hy0 hkt.1] at hz; injection hz with hz; subst hz; exact hkt.2)⟩
  omega
 intro h21
 have hng : 0 < k → ¬ h.Txn < y.Txn := fun h9 => by simpa [h9] using h21
 have hput : insT h l = l.take k ++ h :: l.drop k := Ae9 hinv.1 (fun i x hi hx => by have h7 := hy0 (by omega); have h8 := hng (by omega); rcases Nat.lt_or_ge i (k - 1) with h6 | h6; (have := AO4 (f := TTold.Txn) hs h6 hx h7; omega); (have : i = k - 1 := (by omega); subst this; rw [hx] at h7; injection h7 with h7; subst h7; omega)) (fun x hx => hinv.2 k x (Nat.le_refl _) hx)
 rw [hput]
 refine G6 ?_
 refine A3 (A2 ?_)
 refine R7 rfl rfl rfl rfl I0 K8 ?_
 intro v24
 refine A5 rfl ?_
 refine A5 rfl ?_
 refine A1 rfl (Ab5 rfl I0 K8 (A0 rfl) (A0 rfl) (by omega) (by first | omega | (simp only [A8]; omega))) ?_
 refine M0 (by' := 24) 0 rfl rfl rfl rfl I0 Tryz.type144 rfl rfl rfl rfl rfl rfl (A0 rfl) (A0 rfl) rfl (by simp only [L6, A8, List.length_drop]; omega) ?_
 intro v28_1
 refine B5 rfl ?_
 refine A4 (A3 ?_)
 refine AWP.le (Y8 [0] 6 rfl rfl (N1 (G4 (i := 0) rfl) J4) R5) ?_
 refine U4 _ [(1, false), (2, false), (3, false), (5, false), (6, false), (8, false), (0, true), (4, true), (7, true), (9, true)] (by kernel_rfl) (by kernel_rfl) rfl o4 ?_
 refine G1 rfl rfl rfl (fun ext => C1 rfl (A0 rfl)) ?_
 refine G1 rfl rfl rfl (fun ext => C1 rfl (A0 rfl)) ?_
 refine G1 rfl rfl rfl (fun ext => AC6 rfl I0 K8 (A0 rfl) (A0 rfl) (by omega) (by first | omega | (simp only [A8]; omega))) ?_
 refine G1 rfl rfl rfl (fun ext => F7 0 rfl (A0 rfl) rfl Z4 K8 rfl) ?_
 refine G1 rfl rfl rfl (fun ext => L0 rfl I0 K8 Tryz.zeroValue144 rfl rfl rfl rfl (D9 (A0 rfl) (E7 _) H7) rfl rfl) ?_
 refine G1 rfl rfl rfl (fun ext => C1 rfl (A0 rfl)) ?_
 refine U2 rfl rfl rfl (Y1 rfl I0 K8) (fun a _ => (by first | exact F2 rfl | exact F2 (List.append_assoc _ _ _) | exact I7)) ?_
 intro v29 _
 refine U2 rfl rfl rfl (O6 (by' := 24) 1 rfl I0 Tryz.type144 rfl rfl rfl rfl rfl rfl (A0 rfl) (A0 rfl) rfl (by simp only [L6, List.nil_append, I5, F0, List.length_drop, J3, A8, A9]; omega)) (fun a _ => (by first | exact F2 rfl | exact F2 (List.append_assoc _ _ _) | exact I7)) ?_
 intro v33_2 _
 refine U2 rfl rfl rfl (O6 (by' := 24) 1 rfl I0 Tryz.type144 rfl rfl rfl rfl rfl rfl (A0 rfl) (A0 rfl) rfl (by simp only [L6, List.nil_append, I5, F0, List.length_drop, J3, A8, A9]; omega)) (fun a _ => (by first | exact F2 rfl | exact F2 (List.append_assoc _ _ _) | exact I7)) ?_
 intro v36_3 _
 refine U2 rfl rfl rfl (O6 (by' := 24) 1 rfl I0 Tryz.type144 rfl rfl rfl rfl rfl rfl (A0 rfl) (A0 rfl) rfl (by simp only [L6, List.nil_append, I5, F0, List.length_drop, J3, A8, A9]; omega)) (fun a _ => (by first | exact F2 rfl | exact F2 (List.append_assoc _ _ _) | exact I7)) ?_
 intro v38_4 _
 refine j7 ?_
 refine B5 rfl ?_
 refine A4 ?_
 refine C5 ?_
 exact N5 [1] v38_4 (trivial) rfl (by first | rfl | exact congrArg (fun z => [Own.arr _ 144 3 z]) (put_csT _ _ _)) (S1 rfl (C3 rfl (by rfl)))
theorem AN0 (l : List TTold) (h : TTold) (hs : l.Pairwise fun a b => a.Txn < b.Txn) (hl : l.length ≤ 1048576) : FSpec Tryz.prog 206 [AV.list 3 (l.map TTold.cs), AV.agg h.cs] (AV.list 3 ((insT h l).map TTold.cs)) :=
  T3 (AF0 l h hs hl) fun x _ => N1 (List.mem_singleton.2 rfl) J4
theorem AR0 (l : List TCell) (w : List TWrite) (t : Int) (ho : CellsOk l) (hs : sizeL TCell.size l ≤ 1048576) (hw : sizeL TWrite.size w ≤ 1048576) (ht1 : 1 ≤ t) : FSpec Tryz.prog 204 [AV.list 2 (l.map TCell.cs), AV.list 3 (w.map TWrite.cs), AV.int t] (AV.tup [AV.list 2 ((putP l w t).1.map TCell.cs), AV.bool (putP l w t).2]) :=
  T3 (BA6 l w t ho hs hw ht1) fun x h => AK4 (H2 (AH1 TCell.lcM h 0 rfl fun o ho => List.mem_cons_of_mem _ ho) (H2 M4 V4))
theorem AN1 (l : List Str) (hl : l.length ≤ 4194304) : FSpec Tryz.prog 202 [strs l] (strs l) :=
  T3 (AA0 l hl) fun x _ => N1 (List.mem_singleton.2 rfl) J4
theorem AB9 (a b : Int) : FSpec Tryz.prog 62 [AV.int a, AV.int b] (AV.int (if a < b then b else a)) := by
 refine E5 Tryz.func62 rfl Tryz.ntmps62 rfl ?_
 refine A3 (A2 ?_)
 refine A1 rfl (B7 rfl B6) ?_
 refine A4 (A3 (A3 (A2 ?_)))
 refine A5 rfl ?_
 refine A5 rfl ?_
 refine A1 rfl (O5 rfl (A0 rfl) (A0 rfl)) ?_
 refine A4 ?_
 refine C4 (A0 rfl) ?_ ?_
 ·intro h7
  have k7 := of_decide_eq_true h7; try simp only [A8] at k7
  have h9 := of_decide_eq_true h7
  refine A3 (A2 ?_)
  refine A5 rfl ?_
  refine B5 rfl ?_
  refine A4 ?_
  refine C5 ?_
  exact H5 rfl (C3 rfl (by exact congrArg AV.int (by split <;> omega)))
 intro h7
 have k7 := of_decide_eq_false h7; try simp only [A8] at k7
 have h9 := of_decide_eq_false h7
 refine C7 (A3 (A2 ?_))
 refine A5 rfl ?_
 refine B5 rfl ?_
 refine A4 ?_
 refine C5 ?_
 exact H5 rfl (C3 rfl (by exact congrArg AV.int (by split <;> omega)))
theorem Aq6 (s : TState) (r : TRec) (g : SO s) (hs : s.size ≤ 300000) (hrs : r.size ≤ 300000) : FSpec Tryz.prog 164 [AV.agg s.cs, AV.agg r.cs] (AV.tup [AV.agg (applyS s r).1.cs, AV.bool (applyS s r).2]) := by
 obtain ⟨hs1, hs2, hs3, hs4, hs5⟩ := V8 hs
 have hgc := g.cells
 have hgh := g.hsort
 have hgt := g.tsort
 have hr2 : r.size = sizeL (fun x : Str => x.length) r.Reads + sizeL TWrite.size r.Writes := rfl
 have hr3 := O3 (f := fun x : Str => x.length) (l := r.Reads)
 have hr4 := O3 (f := TWrite.size) (l := r.Writes)
 have hho := AD5 s.Held r.Txn
 have hto := Af0 s.Told r.Txn
 obtain ⟨h, hh⟩ : ∃ h, (heldFO s.Held r.Txn).1 = h := ⟨_, rfl⟩
 have hf1 : hasH s.Held r.Txn = true → findH s.Held r.Txn = some h := fun e => by
  rw [← hho] at e
  unfold heldFO at hh e
  cases hf : findH s.Held r.Txn with
  | none => rw [hf] at e; cases e
  | some x => rw [hf] at hh; exact congrArg some hh
 have hf0 : hasH s.Held r.Txn = false → findH s.Held r.Txn = none := fun e => AH6.2 e
 have hhs : hasH s.Held r.Txn = true → h.size ≤ 300000 ∧ 1 ≤ h.Time := fun e => by
  obtain ⟨h1, h2⟩ := AH5 (hf1 e)
  obtain ⟨i, hi⟩ := List.getElem?_of_mem h1
  exact ⟨(W9 hs2 hi).1, g.times h h1⟩
 have hlen := AE9 s.Held r.Txn
 have hll : (lessH s.Held r.Txn).length ≤ s.Held.length := List.length_filter_le _ _
 refine E5 Tryz.func164 rfl Tryz.ntmps164 rfl ?_
 refine A3 (A2 ?_)
 refine N8 rfl rfl rfl rfl (A0 rfl) ?_
 intro b2
 refine N8 rfl rfl rfl rfl (A0 rfl) ?_
 intro b3
 refine F9 rfl rfl rfl rfl Tryz.zeroValue43 rfl ?_
 intro b4
 refine A1 rfl (B7 rfl F5) ?_
 refine A4 (A3 (A2 ?_))
 refine A1 rfl (F7 2 rfl (A0 rfl) rfl E2 C2 rfl) ?_
 refine A1 rfl (E4 rfl Tryz.call199 rfl (Ah9 s (by omega)) (A7 (A0 rfl) C6)) ?_
 refine F9 rfl rfl rfl rfl Tryz.zeroValue43 rfl ?_
 intro b6
 refine D6 0 rfl rfl rfl (A0 rfl) (A0 rfl) (E7 _) rfl C2 rfl ?_
 refine A4 (A3 (A2 ?_))
 refine A1 rfl (F7 3 rfl (A0 rfl) rfl E2 C2 rfl) ?_
 refine A1 rfl (B1 1 rfl B4 rfl B3 (A0 rfl) rfl) ?_
 refine A1 rfl (B0 2 rfl (A0 rfl) rfl B9 rfl) ?_
 refine A1 rfl (E4 rfl Tryz.call128 rfl (AM7 s r.Txn (by omega)) (A7 (A0 rfl) (A7 (A0 rfl) C6))) ?_
 refine A5 rfl ?_
 refine A1 rfl (H8 rfl (A0 rfl) rfl) ?_
 refine A1 rfl (H8 rfl (A0 rfl) rfl) ?_
 refine F9 rfl rfl rfl rfl Tryz.zeroValue141 rfl ?_
 intro b7
 refine D6 0 rfl rfl rfl (A0 rfl) (A0 rfl) (E7 _) rfl D4 rfl ?_
 refine B5 rfl ?_
 refine A4 (A3 (A2 ?_))
 refine A1 rfl (F7 4 rfl (A0 rfl) rfl E2 C2 rfl) ?_
 refine A1 rfl (B1 1 rfl B4 rfl B3 (A0 rfl) rfl) ?_
 refine A1 rfl (B0 3 rfl (A0 rfl) rfl B9 rfl) ?_
 refine A1 rfl (E4 rfl Tryz.call200 rfl (AM8 s r.Txn (by omega)) (A7 (A0 rfl) (A7 (A0 rfl) C6))) ?_
 refine A5 rfl ?_
 refine A1 rfl (H8 rfl (A0 rfl) rfl) ?_
 refine A1 rfl (H8 rfl (A0 rfl) rfl) ?_
 refine F9 rfl rfl rfl rfl Tryz.zeroValue144 rfl ?_
 intro b9
 refine D6 0 rfl rfl rfl (A0 rfl) (A0 rfl) (E7 _) rfl K8 rfl ?_
 refine B5 rfl ?_
 refine A4 (A3 (C8 (A3 ?_)))
 rw [hh]
 rw [hho, hto]
 refine A2 ?_
 refine A1 rfl (B1 0 rfl B4 rfl B3 (A0 rfl) rfl) ?_
 refine A1 rfl (B0 4 rfl (A0 rfl) rfl B9 rfl) ?_
 refine A1 rfl (P4 rfl (A0 rfl) B6) ?_
 refine B5 rfl ?_
 refine A4 ?_
 refine C4 (A0 rfl) ?_ ?_
 ·intro h29
  have k29 := O9 h29; try simp only [A8] at k29
  have hk : r.Kind = 4 := by simpa using h29
  have he : applyS s r = (⟨r.Time, s.Cells, s.Held, s.Told⟩, decide (s.Floor < r.Time)) := by (unfold applyS; rw [if_pos hk])
  rw [he]
  refine A3 (A2 ?_)
  refine A1 rfl (B1 2 rfl B4 rfl B3 (A0 rfl) rfl) ?_
  refine A1 rfl (B0 4 rfl (A0 rfl) rfl B9 rfl) ?_
  refine A1 rfl (B1 0 rfl C0 rfl B3 (A0 rfl) rfl) ?_
  refine K4 2 rfl rfl rfl (A0 rfl) (A0 rfl) (K5 _ _) rfl B3 rfl ?_
  refine A4 (A3 ?_)
  refine AWP.le (H4 [2, 3, 3] rfl) ?_
  refine X7 _ 7 (.pure 0 (.pure 1 (.pure 2 (.pure 3 (.pure 4 (.pure 5 (.e1 6 .nil))))))) (by kernel_rfl) (by kernel_rfl) rfl (W8 3) ?_
  refine H0 rfl rfl rfl (fun ext => F7 0 rfl (A0 rfl) rfl E2 C2 rfl) ?_
  refine H0 rfl rfl rfl (fun ext => B1 2 rfl B4 rfl B3 (A0 rfl) rfl) ?_
  refine H0 rfl rfl rfl (fun ext => B0 1 rfl (A0 rfl) rfl B9 rfl) ?_
  refine H0 rfl rfl rfl (fun ext => B1 0 rfl C0 rfl B3 (A0 rfl) rfl) ?_
  refine H0 rfl rfl rfl (fun ext => B0 2 rfl (A0 rfl) rfl B9 rfl) ?_
  refine H0 rfl rfl rfl (fun ext => O5 rfl (A0 rfl) (A0 rfl)) ?_
  refine X8 ?_
  refine AV5 rfl rfl rfl (t8 5 rfl rfl (A0 rfl) (A0 rfl) (E7 _) rfl C2 rfl) (fun a _ => (by first | exact F2 rfl | exact F2 (List.append_assoc _ _ _) | exact I7)) ?_
  intro _ _
  refine c5 ?_
  refine B5 rfl ?_
  refine A4 ?_
  refine C5 ?_
  exact Z7 rfl (by decide) (F4 (L1 (ys := _) 5 rfl rfl E2 C2 rfl) (F4 (C3 rfl (by rfl)) M5))
 intro h29
 have k29 := O8 h29; try simp only [A8] at k29
 have hk4 : r.Kind ≠ 4 := by simpa using h29
 refine A3 (A2 ?_)
 refine A5 rfl ?_
 refine B5 rfl ?_
 refine A4 ?_
 refine C4 (A0 rfl) ?_ ?_
 ·intro h42
  have he : applyS s r = (s, false) := by (unfold applyS; rw [if_neg hk4, if_pos h42])
  rw [he]
  refine A3 (A2 ?_)
  refine A1 rfl (F7 2 rfl (A0 rfl) rfl E2 C2 rfl) ?_
  refine D6 3 rfl rfl rfl (A0 rfl) (A0 rfl) (E7 _) rfl C2 rfl ?_
  refine A1 rfl (B7 rfl F5) ?_
  refine A4 ?_
  refine C5 ?_
  exact Z7 rfl (by decide) (F4 (L1 (ys := _) 3 rfl rfl E2 C2 rfl) (F4 (C3 rfl (by rfl)) M5))
 intro h42
 have hT : hasT s.Told r.Txn = false := h42
 have hnT : ¬ hasT s.Told r.Txn = true := by (rw [hT]; decide)
 refine A3 (A2 ?_)
 refine A1 rfl (B1 0 rfl B4 rfl B3 (A0 rfl) rfl) ?_
 refine A1 rfl (B0 4 rfl (A0 rfl) rfl B9 rfl) ?_
 refine A1 rfl (P4 rfl (A0 rfl) B6) ?_
 refine B5 rfl ?_
 refine A4 ?_
 refine C4 (A0 rfl) ?_ ?_
 ·intro h45
  have k45 := O9 h45; try simp only [A8] at k45
  have hk1 : r.Kind = 1 := by simpa using h45
  have he : applyS s r = (⟨r.Time, s.Cells, insH (hOf r) s.Held, s.Told⟩, (!hasH s.Held r.Txn && decide (s.Floor < r.Time)) && fits s r.Reads r.Writes) := by (unfold applyS; rw [if_neg hk4, if_neg hnT, if_pos hk1])
  rw [he]
  refine A3 ?_
  refine U4 _ [(0, false), (1, false), (2, false), (3, false), (4, false), (5, false), (6, false), (7, false), (8, false), (9, false), (10, false), (12, false), (13, false), (11, true), (14, true), (15, false)] (by kernel_rfl) (by kernel_rfl) rfl o4 ?_
  refine G1 rfl rfl rfl (fun ext => B1 2 rfl C0 rfl G2 (A0 rfl) rfl) ?_
  refine G1 rfl rfl rfl (fun ext => B0 2 rfl (A0 rfl) rfl L3 rfl) ?_
  refine G1 rfl rfl rfl (fun ext => B1 1 rfl B4 rfl B3 (A0 rfl) rfl) ?_
  refine G1 rfl rfl rfl (fun ext => B0 4 rfl (A0 rfl) rfl B9 rfl) ?_
  refine G1 rfl rfl rfl (fun ext => B1 2 rfl B4 rfl B3 (A0 rfl) rfl) ?_
  refine G1 rfl rfl rfl (fun ext => B0 4 rfl (A0 rfl) rfl B9 rfl) ?_
  refine G1 rfl rfl rfl (fun ext => B1 3 rfl B4 rfl B3 (A0 rfl) rfl) ?_
  refine G1 rfl rfl rfl (fun ext => B0 4 rfl (A0 rfl) rfl B9 rfl) ?_
  refine G1 rfl rfl rfl (fun ext => B1 4 rfl B4 rfl M7 (A0 rfl) rfl) ?_
  refine G1 rfl rfl rfl (fun ext => B0 4 rfl (A0 rfl) rfl P6 rfl) ?_
  refine G1 rfl rfl rfl (fun ext => E4 rfl Tryz.call202 rfl (AN1 _ (by omega)) (A7 (A0 rfl) C6)) ?_
  refine G1 rfl rfl rfl (fun ext => B1 5 rfl B4 rfl K2 (A0 rfl) rfl) ?_
  refine G1 rfl rfl rfl (fun ext => B0 4 rfl (A0 rfl) rfl L9 rfl) ?_
  refine U2 rfl rfl rfl (Y1 rfl G3 I3) (fun a _ => (by first | exact F2 rfl | exact F2 (List.append_assoc _ _ _) | exact I7)) ?_
  intro v60 _
  refine U2 rfl rfl rfl (Ae7 [6] (fun _ => rfl) (fun _ => N1 (G4 (i := 0) rfl) J4) (fun _ => Ae2) (O6 (by' := 40) 6 rfl G3 Tryz.type101 rfl rfl rfl rfl rfl rfl (A0 rfl) (A0 rfl) rfl (by simp only [L6, A8]; omega))) (fun a _ => (by first | exact F2 rfl | exact F2 (List.append_assoc _ _ _) | exact I7)) ?_
  intro v63_1 _
  refine G1 rfl rfl rfl (fun ext => O0 (places := #[(0, 1), (1, 1), (2, 1), (3, 1), (4, 1)]) rfl F1 Tryz.zeroValue141 (fun w => by kernel_rfl) rfl (D9 (A0 rfl) (K5 _ _) (D9 (A0 rfl) (K5 _ _) (D9 (A0 rfl) (K5 _ _) (D9 (A0 rfl) (U8 _ _) (D9 (A0 rfl) (U8 _ _) H7))))) rfl) ?_
  refine j7 ?_
  refine A1 rfl (E4 rfl Tryz.call201 rfl (Am8 s.Held (hOf r) hgh (by omega)) (A7 (A0 rfl) (A7 (A0 rfl) C6))) ?_
  refine A1 rfl (B1 2 rfl C0 rfl G2 (A0 rfl) rfl) ?_
  refine K4 2 rfl rfl rfl (A0 rfl) (A0 rfl) (U8 _ _) rfl G2 rfl ?_
  refine A4 (A3 (A2 ?_))
  refine A1 rfl (B1 2 rfl B4 rfl B3 (A0 rfl) rfl) ?_
  refine A1 rfl (B0 4 rfl (A0 rfl) rfl B9 rfl) ?_
  refine A1 rfl (B1 0 rfl C0 rfl B3 (A0 rfl) rfl) ?_
  refine K4 2 rfl rfl rfl (A0 rfl) (A0 rfl) (K5 _ _) rfl B3 rfl ?_
  refine A4 (A3 ?_)
  refine AWP.le (H4 [2, 3, 3] rfl) ?_
  refine X7 _ 19 (.pure 0 (.pure 1 (.pure 2 (.pure 3 (.pure 4 (.pure 5 (.pure 6 (.pure 7 (.pure 8 (.pure 9 (.pure 10 (.pure 11 (.pure 12 (.pure 13 (.pure 14 (.pure 15 (.pure 16 (.pure 17 (.e1 18 .nil))))))))))))))))))) (by kernel_rfl) (by kernel_rfl) rfl (W8 3) ?_
  refine H0 rfl rfl rfl (fun ext => F7 0 rfl (A0 rfl) rfl E2 C2 rfl) ?_
  refine H0 rfl rfl rfl (fun ext => C1 rfl (A0 rfl)) ?_
  refine H0 rfl rfl rfl (fun ext => M2 rfl (A0 rfl)) ?_
  refine H0 rfl rfl rfl (fun ext => C1 rfl (A0 rfl)) ?_
  refine W3 rfl rfl (H1 rfl rfl rfl) (fun hc ext => B1 2 rfl B4 rfl B3 (A0 rfl) rfl) ?_
  refine W3 rfl rfl (H1 rfl rfl rfl) (fun hc ext => B0 1 rfl (A6 rfl hc) rfl B9 rfl) ?_
  refine W3 rfl rfl (H1 rfl rfl rfl) (fun hc ext => B1 0 rfl C0 rfl B3 (A0 rfl) rfl) ?_
  refine W3 rfl rfl (H1 rfl rfl rfl) (fun hc ext => B0 2 rfl (A6 rfl hc) rfl B9 rfl) ?_
  refine W3 rfl rfl (H1 rfl rfl rfl) (fun hc ext => O5 rfl (A6 rfl hc) (A6 rfl hc)) ?_
  refine H0 rfl rfl rfl (fun ext => H6 rfl (A0 rfl) (F6 rfl)) ?_
  refine H0 rfl rfl rfl (fun ext => C1 rfl (A0 rfl)) ?_
  refine W3 rfl rfl (H1 rfl rfl rfl) (fun hc ext => F7 2 rfl (A0 rfl) rfl E2 C2 rfl) ?_
  refine W3 rfl rfl (H1 rfl rfl rfl) (fun hc ext => B1 4 rfl B4 rfl M7 (A0 rfl) rfl) ?_
  refine W3 rfl rfl (H1 rfl rfl rfl) (fun hc ext => B0 1 rfl (A6 rfl hc) rfl P6 rfl) ?_
  refine W3 rfl rfl (H1 rfl rfl rfl) (fun hc ext => B1 5 rfl B4 rfl K2 (A0 rfl) rfl) ?_
  refine W3 rfl rfl (H1 rfl rfl rfl) (fun hc ext => B0 1 rfl (A6 rfl hc) rfl L9 rfl) ?_
  refine W3 rfl rfl (H1 rfl rfl rfl) (fun hc ext => E4 rfl Tryz.call203 rfl (AW4 s r.Reads r.Writes (by omega) (by omega)) (A7 (A6 rfl hc) (A7 (A6 rfl hc) (A7 (A6 rfl hc) C6)))) ?_
  refine H0 rfl rfl rfl (fun ext => H6 rfl (A0 rfl) (F6 rfl)) ?_
  refine X8 ?_
  refine AV5 rfl rfl rfl (t8 5 rfl rfl (A0 rfl) (A0 rfl) (E7 _) rfl C2 rfl) (fun a _ => (by first | exact F2 rfl | exact F2 (List.append_assoc _ _ _) | exact I7)) ?_
  intro _ _
  refine c5 ?_
  refine B5 rfl ?_
  refine A4 ?_
  refine C5 ?_
  exact Z7 rfl (by decide) (F4 (L1 (ys := _) 5 rfl rfl E2 C2 rfl) (F4 (C3 rfl (by rfl)) M5))
 intro h45
 have k45 := O8 h45; try simp only [A8] at k45
 have hk1 : r.Kind ≠ 1 := by simpa using h45
 have hap : applyS s r = (if r.Yes = true then (match findH s.Held r.Txn with | none => (s, false) | some h => if r.Time < h.Time then (s, false) else if (putP s.Cells h.Writes r.Time).2 = true then (doneS s r (if s.Floor < r.Time then r.Time else s.Floor) (putP s.Cells h.Writes r.Time).1, true) else (s, false)) else (doneS s r s.Floor s.Cells, true)) := by (unfold applyS; rw [if_neg hk4, if_neg hnT, if_neg hk1]; rfl)
 refine A3 (A2 ?_)
 refine A1 rfl (B1 6 rfl B4 rfl J8 (A0 rfl) rfl) ?_
 refine A1 rfl (B0 4 rfl (A0 rfl) rfl L8 rfl) ?_
 refine B5 rfl ?_
 refine A4 ?_
 refine C4 (A0 rfl) ?_ ?_
 ·intro h88
  refine A3 (A3 (A2 ?_))
  refine A5 rfl ?_
  refine A1 rfl (M2 rfl (A0 rfl)) ?_
  refine A5 rfl ?_
  refine J5 rfl (fun hc => B1 1 rfl F1 rfl B3 (A0 rfl) rfl) ?_
  refine J5 rfl (fun hc => B0 1 rfl (A6 rfl hc) rfl B9 rfl) ?_
  refine J5 rfl (fun hc => B1 2 rfl B4 rfl B3 (A0 rfl) rfl) ?_
  refine J5 rfl (fun hc => B0 4 rfl (A6 rfl hc) rfl B9 rfl) ?_
  refine J5 rfl (fun hc => O5 rfl (A6 rfl hc) (A6 rfl hc)) ?_
  refine A1 rfl (T5 rfl (A0 rfl) (F6 rfl)) ?_
  refine A4 ?_
  refine C4 (A0 rfl) ?_ ?_
  ·intro h99
   have he : applyS s r = (s, false) := by (rw [hap, if_pos h88]; cases e : hasH s.Held r.Txn with | false => (rw [hf0 e]) | true => (rw [hf1 e]; dsimp only; rw [if_pos (by rw [e] at h99; simpa using h99)]))
   rw [he]
   refine A3 (A2 ?_)
   refine A1 rfl (F7 2 rfl (A0 rfl) rfl E2 C2 rfl) ?_
   refine D6 3 rfl rfl rfl (A0 rfl) (A0 rfl) (E7 _) rfl C2 rfl ?_
   refine A1 rfl (B7 rfl F5) ?_
   refine A4 ?_
   refine C5 ?_
   exact Z7 rfl (by decide) (F4 (L1 (ys := _) 3 rfl rfl E2 C2 rfl) (F4 (C3 rfl (by rfl)) M5))
  intro h99
  simp only [Bool.or_eq_false_iff, Bool.not_eq_false', decide_eq_false_iff_not] at h99
  obtain ⟨hhas, hnlt⟩ := h99
  obtain ⟨hz1, hz2⟩ := hhs hhas
  have hz3 : h.size = sizeL (fun x => x.length) h.Reads + sizeL TWrite.size h.Writes := rfl
  refine C7 (A3 (A2 ?_))
  refine A1 rfl (B1 1 rfl C0 rfl N9 (A0 rfl) rfl) ?_
  refine A1 rfl (B0 5 rfl (A0 rfl) rfl Q1 rfl) ?_
  refine A1 rfl (B1 4 rfl F1 rfl K2 (A0 rfl) rfl) ?_
  refine A1 rfl (B0 1 rfl (A0 rfl) rfl L9 rfl) ?_
  refine A1 rfl (B1 2 rfl B4 rfl B3 (A0 rfl) rfl) ?_
  refine A1 rfl (B0 4 rfl (A0 rfl) rfl B9 rfl) ?_
  refine A1 rfl (E4 rfl Tryz.call204 rfl (AR0 s.Cells h.Writes r.Time hgc (by omega) (by omega) (by omega)) (A7 (A0 rfl) (A7 (A0 rfl) (A7 (A0 rfl) C6)))) ?_
  refine A5 rfl ?_
  refine A1 rfl (H8 rfl (A0 rfl) rfl) ?_
  refine A1 rfl (H8 rfl (A0 rfl) rfl) ?_
  refine B5 rfl ?_
  refine B5 rfl ?_
  refine A4 (A3 (A3 (A2 ?_)))
  refine A5 rfl ?_
  refine A1 rfl (M2 rfl (A0 rfl)) ?_
  refine A4 ?_
  refine C4 (A0 rfl) ?_ ?_
  ·intro h112
   have he : applyS s r = (s, false) := by (rw [hap, if_pos h88, hf1 hhas]; dsimp only; rw [if_neg (by omega), if_neg (by simpa using h112)])
   rw [he]
   refine A3 (A2 ?_)
   refine A1 rfl (F7 2 rfl (A0 rfl) rfl E2 C2 rfl) ?_
   refine D6 3 rfl rfl rfl (A0 rfl) (A0 rfl) (E7 _) rfl C2 rfl ?_
   refine A1 rfl (B7 rfl F5) ?_
   refine A4 ?_
   refine C5 ?_
   exact Z7 rfl (by decide) (F4 (L1 (ys := _) 3 rfl rfl E2 C2 rfl) (F4 (C3 rfl (by rfl)) M5))
  intro h112
  have he : applyS s r = (doneS s r (if s.Floor < r.Time then r.Time else s.Floor) (putP s.Cells h.Writes r.Time).1, true) := by (rw [hap, if_pos h88, hf1 hhas]; dsimp only; rw [if_neg (by omega), if_pos (by simpa using h112)])
  rw [he]
  unfold doneS
  refine C7 (A3 (A2 ?_))
  refine A5 rfl ?_
  refine A1 rfl (B1 1 rfl C0 rfl N9 (A0 rfl) rfl) ?_
  refine K4 2 rfl rfl rfl (A0 rfl) (A0 rfl) (U8 _ _) rfl N9 rfl ?_
  refine A4 (A2 ?_)
  refine A1 rfl (B1 0 rfl C0 rfl B3 (A0 rfl) rfl) ?_
  refine A1 rfl (B0 5 rfl (A0 rfl) rfl B9 rfl) ?_
  refine A1 rfl (B1 2 rfl B4 rfl B3 (A0 rfl) rfl) ?_
  refine A1 rfl (B0 4 rfl (A0 rfl) rfl B9 rfl) ?_
  refine A1 rfl (E4 rfl Tryz.call62 rfl (AB9 _ _) (A7 (A0 rfl) (A7 (A0 rfl) C6))) ?_
  refine A1 rfl (B1 0 rfl C0 rfl B3 (A0 rfl) rfl) ?_
  refine K4 2 rfl rfl rfl (A0 rfl) (A0 rfl) (K5 _ _) rfl B3 rfl ?_
  refine A4 (A3 (A2 ?_))
  refine A1 rfl (B1 2 rfl C0 rfl G2 (A0 rfl) rfl) ?_
  refine A1 rfl (B0 2 rfl (A0 rfl) rfl L3 rfl) ?_
  refine A1 rfl (B1 1 rfl B4 rfl B3 (A0 rfl) rfl) ?_
  refine A1 rfl (B0 4 rfl (A0 rfl) rfl B9 rfl) ?_
  refine A1 rfl (E4 rfl Tryz.call205 rfl (Af2 s.Held r.Txn (by omega)) (A7 (A0 rfl) (A7 (A0 rfl) C6))) ?_
  refine A1 rfl (B1 2 rfl C0 rfl G2 (A0 rfl) rfl) ?_
  refine K4 2 rfl rfl rfl (A0 rfl) (A0 rfl) (U8 _ _) rfl G2 rfl ?_
  refine A4 (A3 (A2 ?_))
  refine A1 rfl (B1 3 rfl C0 rfl N2 (A0 rfl) rfl) ?_
  refine A1 rfl (B0 2 rfl (A0 rfl) rfl T7 rfl) ?_
  refine A1 rfl (B1 1 rfl B4 rfl B3 (A0 rfl) rfl) ?_
  refine A1 rfl (B0 4 rfl (A0 rfl) rfl B9 rfl) ?_
  refine A1 rfl (B1 6 rfl B4 rfl J8 (A0 rfl) rfl) ?_
  refine A1 rfl (B0 4 rfl (A0 rfl) rfl L8 rfl) ?_
  refine A1 rfl (B1 2 rfl B4 rfl B3 (A0 rfl) rfl) ?_
  refine A1 rfl (B0 4 rfl (A0 rfl) rfl B9 rfl) ?_
  refine A1 rfl (O0 (places := #[(0, 1), (1, 1), (2, 1)]) rfl K9 Tryz.zeroValue144 (fun w => by kernel_rfl) rfl (D9 (A0 rfl) (K5 _ _) (D9 (A0 rfl) (Y6 _) (D9 (A0 rfl) (K5 _ _) H7))) rfl) ?_
  refine A1 rfl (E4 rfl Tryz.call206 rfl (AN0 s.Told ⟨r.Txn, r.Yes, r.Time⟩ hgt (by omega)) (A7 (A0 rfl) (A7 (A0 rfl) C6))) ?_
  refine A1 rfl (B1 3 rfl C0 rfl N2 (A0 rfl) rfl) ?_
  refine K4 2 rfl rfl rfl (A0 rfl) (A0 rfl) (U8 _ _) rfl N2 rfl ?_
  refine A4 (A3 (A2 ?_))
  refine A1 rfl (F7 2 rfl (A0 rfl) rfl E2 C2 rfl) ?_
  refine D6 3 rfl rfl rfl (A0 rfl) (A0 rfl) (E7 _) rfl C2 rfl ?_
  refine A1 rfl (B7 rfl F5) ?_
  refine A4 ?_
  refine C5 ?_
  exact Z7 rfl (by decide) (F4 (L1 (ys := _) 3 rfl rfl E2 C2 rfl) (F4 (C3 rfl (by rfl)) M5))
 intro h88
 have he : applyS s r = (doneS s r s.Floor s.Cells, true) := by (rw [hap, if_neg (by rw [h88]; decide)])
 rw [he]
 unfold doneS
 refine C7 (A3 (A2 ?_))
 refine A1 rfl (B1 2 rfl C0 rfl G2 (A0 rfl) rfl) ?_
 refine A1 rfl (B0 2 rfl (A0 rfl) rfl L3 rfl) ?_
 refine A1 rfl (B1 1 rfl B4 rfl B3 (A0 rfl) rfl) ?_
 refine A1 rfl (B0 4 rfl (A0 rfl) rfl B9 rfl) ?_
 refine A1 rfl (E4 rfl Tryz.call205 rfl (Af2 s.Held r.Txn (by omega)) (A7 (A0 rfl) (A7 (A0 rfl) C6))) ?_
 refine A1 rfl (B1 2 rfl C0 rfl G2 (A0 rfl) rfl) ?_
 refine K4 2 rfl rfl rfl (A0 rfl) (A0 rfl) (U8 _ _) rfl G2 rfl ?_
 refine A4 (A3 (A2 ?_))
 refine A1 rfl (B1 3 rfl C0 rfl N2 (A0 rfl) rfl) ?_
 refine A1 rfl (B0 2 rfl (A0 rfl) rfl T7 rfl) ?_
 refine A1 rfl (B1 1 rfl B4 rfl B3 (A0 rfl) rfl) ?_
 refine A1 rfl (B0 4 rfl (A0 rfl) rfl B9 rfl) ?_
 refine A1 rfl (B1 6 rfl B4 rfl J8 (A0 rfl) rfl) ?_
 refine A1 rfl (B0 4 rfl (A0 rfl) rfl L8 rfl) ?_
 refine A1 rfl (B1 2 rfl B4 rfl B3 (A0 rfl) rfl) ?_
 refine A1 rfl (B0 4 rfl (A0 rfl) rfl B9 rfl) ?_
 refine A1 rfl (O0 (places := #[(0, 1), (1, 1), (2, 1)]) rfl K9 Tryz.zeroValue144 (fun w => by kernel_rfl) rfl (D9 (A0 rfl) (K5 _ _) (D9 (A0 rfl) (Y6 _) (D9 (A0 rfl) (K5 _ _) H7))) rfl) ?_
 refine A1 rfl (E4 rfl Tryz.call206 rfl (AN0 s.Told ⟨r.Txn, r.Yes, r.Time⟩ hgt (by omega)) (A7 (A0 rfl) (A7 (A0 rfl) C6))) ?_
 refine A1 rfl (B1 3 rfl C0 rfl N2 (A0 rfl) rfl) ?_
 refine K4 2 rfl rfl rfl (A0 rfl) (A0 rfl) (U8 _ _) rfl N2 rfl ?_
 refine A4 (A3 (A2 ?_))
 refine A1 rfl (F7 2 rfl (A0 rfl) rfl E2 C2 rfl) ?_
 refine D6 3 rfl rfl rfl (A0 rfl) (A0 rfl) (E7 _) rfl C2 rfl ?_
 refine A1 rfl (B7 rfl F5) ?_
 refine A4 ?_
 refine C5 ?_
 exact Z7 rfl (by decide) (F4 (L1 (ys := _) 3 rfl rfl E2 C2 rfl) (F4 (C3 rfl (by rfl)) M5))
end Go.Proofs.YtkegepoihkhihaaGreat

set_option maxHeartbeats 1000000
namespace Go.M
open Go.AV
end Go.M
namespace Go.Proofs.YtkegepoihkhihaaGreat
open Go Go.AV Go.M
attribute [local irreducible] OpW OpA OpS AWP FSpec ESpec GSpec OpE RetOk RetOkG RvDen Le Ev GuardIs SrcIs Int.tmod Int.tdiv IntKind.wrap
theorem Ai0 (s : TState) (hg : goodState s = true) : FSpec Tryz.prog 81 [AV.agg s.cs] (AV.int (settled s)) := by
 have g := m8.1 hg
 have hhl := g.hlen
 refine E5 Tryz.func81 rfl Tryz.ntmps81 rfl ?_
 refine A3 (A2 ?_)
 refine N8 rfl rfl rfl rfl (A0 rfl) ?_
 intro b1
 refine A1 rfl (B7 rfl B6) ?_
 refine A4 (A3 (A2 ?_))
 refine A1 rfl (B1 0 rfl C0 rfl B3 (A0 rfl) rfl) ?_
 refine A1 rfl (B0 0 rfl (A0 rfl) rfl B9 rfl) ?_
 refine B5 rfl ?_
 refine A4 (A3 (A3 (A2 ?_)))
 refine A1 rfl (B1 2 rfl C0 rfl G2 (A0 rfl) rfl) ?_
 refine A1 rfl (B0 0 rfl (A0 rfl) rfl L3 rfl) ?_
 refine A1 rfl (G9 rfl E1 (A0 rfl)) ?_
 refine A1 rfl (C1 rfl B6) ?_
 refine A4 (C8 ?_)
 refine J1 [(2, _), (9, _), (10, _)] _ (fun (i : Nat) => i ≤ s.Held.length) (fun (i : Nat) => []) (fun (i : Nat) => [(3, AV.int ((s.Held.take i).foldl (fun o h => min o (h.Time - 1)) s.Floor)), (11, AV.int i)]) (fun (i : Nat) => s.Held.length - i) (0) ?_ (K0 ⟨rfl, rfl, rfl, rfl, rfl, trivial⟩) ?_
 ·exact Nat.zero_le _
 intro i hinv
 refine A3 (A2 ?_)
 refine A1 rfl (J6 rfl (A0 rfl) (A0 rfl)) ?_
 refine A4 (A3 ?_)
 refine C4 (A0 rfl) ?_ ?_
 ·intro h12
  have k12 := of_decide_eq_true h12; try simp only [A8] at k12
  have hlt : i < s.Held.length := by omega
  obtain ⟨h, hx⟩ := get_some hlt
  obtain ⟨q1, q2, q3⟩ := AI2 g (G4 hx)
  refine C7 (A3 (C8 (A3 (A2 ?_))))
  refine A1 rfl (I9 rfl E1 D4 (A0 rfl) (A0 rfl) hx (by first | omega | (simp only [D3, A9, szR] at *; omega))) ?_
  refine A1 rfl (K6 rfl (A0 rfl) I6 D4) ?_
  refine F9 rfl rfl rfl rfl Tryz.zeroValue141 rfl ?_
  intro b5
  refine D6 0 rfl rfl rfl (A0 rfl) (A0 rfl) (E7 _) rfl D4 rfl ?_
  refine A4 (A2 ?_)
  refine A5 rfl ?_
  refine A1 rfl (B1 1 rfl F1 rfl B3 (A0 rfl) rfl) ?_
  refine A1 rfl (B0 0 rfl (A0 rfl) rfl B9 rfl) ?_
  refine A1 rfl (Q3 rfl (A0 rfl) B6 (by first | omega | (simp only [D3, A9, szR] at *; omega))) ?_
  refine A1 rfl (E4 rfl Tryz.call38 rfl (AM9 _ _) (A7 (A0 rfl) (A7 (A0 rfl) C6))) ?_
  refine B5 rfl ?_
  refine A4 (A2 ?_)
  refine A1 rfl (G8 rfl (A0 rfl) B6 (by first | omega | (simp only [D3, A9, szR] at *; omega))) ?_
  refine A5 rfl ?_
  refine A4 ?_
  refine L4 i (i + 1) ?_ ?_ (U3 1 ⟨congrArg (fun z => some (AV.int z)) (by rw [AM6 hx]; unfold leastI; split <;> split <;> omega), rfl, rfl, rfl, rfl, trivial⟩)
  ·omega
  omega
 intro h12
 have k12 := of_decide_eq_false h12; try simp only [A8] at k12
 have hge : s.Held.length ≤ i := by omega
 rw [List.take_of_length_le hge]
 refine G6 ?_
 refine A3 (A2 ?_)
 refine A5 rfl ?_
 refine B5 rfl ?_
 refine A4 ?_
 refine C5 ?_
 exact H5 rfl (C3 rfl (by rfl))
theorem AW5 (s : TState) (hs : s.size ≤ 1048576) : FSpec Tryz.prog 37 [AV.agg s.cs] (AV.tup [AV.int (settledR s).1, AV.bool (settledR s).2]) := by
 refine E5 Tryz.func37 rfl Tryz.ntmps37 rfl ?_
 refine A3 (A2 ?_)
 refine N8 rfl rfl rfl rfl (A0 rfl) ?_
 intro b1
 refine A1 rfl (B7 rfl B6) ?_
 refine A1 rfl (B7 rfl F5) ?_
 refine A4 (A3 (A3 (A2 ?_)))
 refine A1 rfl (F7 0 rfl (A0 rfl) rfl E2 C2 rfl) ?_
 refine A1 rfl (E4 rfl Tryz.call80 rfl (AW3 _ (by first | assumption | omega)) (A7 (A0 rfl) C6)) ?_
 refine A1 rfl (M2 rfl (A0 rfl)) ?_
 refine A4 ?_
 refine C4 (A0 rfl) ?_ ?_
 ·intro h6
  have he : settledR s = (0, false) := if_neg (by simpa using h6)
  rw [he]
  refine A3 (A2 ?_)
  refine A1 rfl (B7 rfl B6) ?_
  refine A1 rfl (B7 rfl F5) ?_
  refine A4 ?_
  refine C5 ?_
  exact Z7 rfl (by decide) (F4 (C3 rfl (by rfl)) (F4 (C3 rfl (by rfl)) M5))
 intro h6
 have hg : goodState s = true := by simpa using h6
 have he : settledR s = (settled s, true) := if_pos hg
 rw [he]
 refine C7 (A3 (A2 ?_))
 refine A1 rfl (F7 0 rfl (A0 rfl) rfl E2 C2 rfl) ?_
 refine A1 rfl (E4 rfl Tryz.call81 rfl (Ai0 _ (by assumption)) (A7 (A0 rfl) C6)) ?_
 refine B5 rfl ?_
 refine A1 rfl (B7 rfl F5) ?_
 refine A4 ?_
 refine C5 ?_
 exact Z7 rfl (by decide) (F4 (C3 rfl (by rfl)) (F4 (C3 rfl (by rfl)) M5))
theorem of_own (l : List TRec) (hl : l.length ≤ 60) (hr : ∀ r ∈ l, r.size ≤ 1100) : GSpec Tryz.prog 107 [AV.list 7 (l.map TRec.cs)] [] (fun _ : Value => True) (fun x => [.arr x 4 1 ((didFrom zState l).map fun b => [AV.bool b])]) (fun x => AV.tup [AV.agg (stFrom zState l).cs, AV.is x]) := by
 have hgs : ∀ i, SO (stFrom zState (l.take i)) := fun i => AO5 Aa0
 have hsz : ∀ i, (stFrom zState (l.take i)).size ≤ 300000 := fun i => by
  have h1 := AI1 (stFrom zState (l.take i))
  have h2 := AB8 (m := 1100) (s := zState) (l := l.take i) fun r hr2 => hr r (List.mem_of_mem_take hr2)
  have h3 : phi zState = 0 := rfl
  have h4 : (l.take i).length ≤ 60 := by rw [F0]; omega
  have h5 : (l.take i).length * (3 * (1 + 1100) + 1) ≤ 60 * 3304 := Nat.mul_le_mul h4 (by decide)
  omega
 refine J9 Tryz.func107 rfl Tryz.ntmps107 rfl ?_
 refine A3 (A2 ?_)
 refine F9 rfl rfl rfl rfl Tryz.zeroValue43 rfl ?_
 intro b2
 refine A1 rfl (B7 rfl O7) ?_
 refine A4 (A3 (A2 ?_))
 refine F9 rfl rfl rfl rfl Tryz.zeroValue43 rfl ?_
 intro b4
 refine A4 (A3 (A2 ?_))
 refine j5 4 1 rfl rfl rfl rfl O7 ?_
 intro v5
 refine A4 (A3 (A3 ?_))
 refine AWP.le (z8 1 1 2 rfl rfl R5) ?_
 refine AWP.le (z8 1 2 5 rfl rfl R5) ?_
 refine AWP.le (z8 1 3 3 rfl rfl R5) ?_
 refine A2 ?_
 refine A5 rfl ?_
 refine A1 rfl (G9 rfl I4 (A0 rfl)) ?_
 refine A1 rfl (C1 rfl B6) ?_
 refine A4 (C8 ?_)
 refine AWP.le (H4 [1, 0] rfl) ?_
 refine X0 [(2, _), (3, _), (4, _), (10, _), (11, _)] _ (fun (i : Nat) (v : Value) (bs : List Bool) => i ≤ l.length ∧ bs = didFrom zState (l.take i) ∧ bs.length ≤ i) (fun (i : Nat) (v : Value) (bs : List Bool) => [.box b4 43 (stFrom zState (l.take i)).cs, .arr v 4 1 (bs.map fun b => [AV.bool b])]) (fun (i : Nat) (v : Value) (bs : List Bool) => [(5, AV.is v), (12, AV.int i)]) (fun (i : Nat) (v : Value) (bs : List Bool) => l.length - i) (0) (v5) ([]) ?_ (P8 (by rfl) ⟨rfl, rfl, rfl, rfl, rfl, rfl, rfl, trivial⟩) ?_
 ·exact ⟨Nat.zero_le _, rfl, Nat.le_refl _⟩
 intro i v bs hinv
 refine A3 (A2 ?_)
 refine A1 rfl (J6 rfl (A0 rfl) (A0 rfl)) ?_
 refine A4 (A3 ?_)
 refine C4 (A0 rfl) ?_ ?_
 ·intro h13
  have k13 := of_decide_eq_true h13; try simp only [A8] at k13
  have hlt : i < l.length := by omega
  obtain ⟨r, hx⟩ := get_some hlt
  have hgr := hr r (G4 hx)
  have hgi := hgs i
  have hsi := hsz i
  refine C7 (A3 (C8 (A3 (A2 ?_))))
  refine A1 rfl (I9 rfl I4 F8 (A0 rfl) (A0 rfl) hx (by first | omega | (simp only [D3, A9, szR] at *; omega))) ?_
  refine A1 rfl (K6 rfl (A0 rfl) M8 F8) ?_
  refine F9 rfl rfl rfl rfl Tryz.zeroValue104 rfl ?_
  intro b7
  refine D6 0 rfl rfl rfl (A0 rfl) (A0 rfl) (E7 _) rfl F8 rfl ?_
  refine A4 (A3 (A2 ?_))
  refine A1 rfl (F7 1 rfl (A0 rfl) rfl E2 C2 rfl) ?_
  refine A1 rfl (F7 0 rfl (A0 rfl) rfl M8 F8 rfl) ?_
  refine A1 rfl (E4 rfl Tryz.call164 rfl (Aq6 (stFrom zState (l.take i)) r hgi (by omega) (by omega)) (A7 (A0 rfl) (A7 (A0 rfl) C6))) ?_
  refine A5 rfl ?_
  refine A1 rfl (H8 rfl (A0 rfl) rfl) ?_
  refine A1 rfl (H8 rfl (A0 rfl) rfl) ?_
  refine F9 rfl rfl rfl rfl Tryz.zeroValue43 rfl ?_
  intro b8
  refine D6 0 rfl rfl rfl (A0 rfl) (A0 rfl) (E7 _) rfl C2 rfl ?_
  refine B5 rfl ?_
  refine A4 (A3 (A3 (A2 ?_)))
  refine A5 rfl ?_
  refine A4 ?_
  refine C4 (A0 rfl) ?_ ?_
  ·intro h22
   have hstep : (applyS (stFrom zState (l.take i)) r).1 = stepS (stFrom zState (l.take i)) r := by (unfold stepS; rw [if_pos h22])
   refine A2 ?_
   refine A1 rfl (F7 0 rfl (A0 rfl) rfl E2 C2 rfl) ?_
   refine D6 2 rfl rfl rfl (A0 rfl) (A0 rfl) (E7 _) rfl C2 rfl ?_
   refine A4 (A2 ?_)
   refine A5 rfl ?_
   refine A5 rfl ?_
   refine A1 rfl (L0 rfl V3 J8 Tryz.zeroValue4 rfl rfl rfl rfl (D9 (A0 rfl) (Y6 _) H7) rfl rfl) ?_
   refine M0 (by' := 1) 3 rfl rfl rfl rfl V3 Tryz.type4 rfl rfl rfl rfl rfl rfl (A0 rfl) (A0 rfl) rfl (by first | omega | (simp only [D3, A9, szR] at *; omega)) ?_
   intro v27_1
   refine B5 rfl ?_
   refine A4 (A2 ?_)
   refine A1 rfl (G8 rfl (A0 rfl) B6 (by first | omega | (simp only [D3, A9, szR] at *; omega))) ?_
   refine A5 rfl ?_
   refine A4 ?_
   refine W0 i v bs (i + 1) (v27_1) (bs ++ [(applyS (stFrom zState (l.take i)) r).2]) ?_ ?_ (Le.trans (H4 [0, 0, 0, 0] rfl) (L7 2 (by first | (rw [List.map_append, u4 hx, ← hstep]; rfl) | rfl) ⟨rfl, rfl, rfl, rfl, rfl, rfl, rfl, trivial⟩))
   ·exact ⟨by omega, by rw [q7 hx, hinv.2.1], by rw [I5]; simp; omega⟩
   omega
  intro h22
  have hstep : stFrom zState (l.take i) = stepS (stFrom zState (l.take i)) r := by (conv => rhs; unfold stepS; rw [if_neg (by rw [h22]; decide)])
  refine C7 (A2 ?_)
  refine A5 rfl ?_
  refine A5 rfl ?_
  refine A1 rfl (L0 rfl V3 J8 Tryz.zeroValue4 rfl rfl rfl rfl (D9 (A0 rfl) (Y6 _) H7) rfl rfl) ?_
  refine M0 (by' := 1) 3 rfl rfl rfl rfl V3 Tryz.type4 rfl rfl rfl rfl rfl rfl (A0 rfl) (A0 rfl) rfl (by first | omega | (simp only [D3, A9, szR] at *; omega)) ?_
  intro v27_2
  refine B5 rfl ?_
  refine A4 (A2 ?_)
  refine A1 rfl (G8 rfl (A0 rfl) B6 (by first | omega | (simp only [D3, A9, szR] at *; omega))) ?_
  refine A5 rfl ?_
  refine A4 ?_
  refine W0 i v bs (i + 1) (v27_2) (bs ++ [(applyS (stFrom zState (l.take i)) r).2]) ?_ ?_ (Le.trans (H4 [0, 0, 0, 0] rfl) (L7 2 (by first | (rw [List.map_append, u4 hx, ← hstep]; rfl) | rfl) ⟨rfl, rfl, rfl, rfl, rfl, rfl, rfl, trivial⟩))
  ·exact ⟨by omega, by rw [q7 hx, hinv.2.1], by rw [I5]; simp; omega⟩
  omega
 intro h13
 have k13 := of_decide_eq_false h13; try simp only [A8] at k13
 have hge : i = l.length := by omega
 have hbs := hinv.2.1
 rw [hge, List.take_length] at hbs
 rw [hge, List.take_length, ← hbs]
 refine G6 ?_
 refine A3 (A2 ?_)
 refine A1 rfl (F7 0 rfl (A0 rfl) rfl E2 C2 rfl) ?_
 refine A5 rfl ?_
 refine D6 2 rfl rfl rfl (A0 rfl) (A0 rfl) (E7 _) rfl C2 rfl ?_
 refine B5 rfl ?_
 refine A4 ?_
 refine C5 ?_
 exact N5 [1] v (trivial) rfl (by rfl) (W6 rfl (by decide) (F4 (L1 (ys := _) 2 rfl rfl E2 C2 rfl) (F4 (C3 rfl (by rfl)) M5)))
theorem Am9 (l : List TRec) (hl : l.length ≤ 1048576) (hr : ∀ r ∈ l, r.size ≤ 1100) : GSpec Tryz.prog 67 [AV.list 7 (l.map TRec.cs)] [] (fun _ : Value => True) (fun x => [.arr x 4 1 ((stateOfR l).2.1.map fun b => [AV.bool b])]) (fun x => AV.tup [AV.agg (stateOfR l).1.cs, AV.is x, AV.bool (stateOfR l).2.2]) := by
 refine J9 Tryz.func67 rfl Tryz.ntmps67 rfl ?_
 refine A3 (A2 ?_)
 refine F9 rfl rfl rfl rfl Tryz.zeroValue43 rfl ?_
 intro b2
 refine A1 rfl (B7 rfl O7) ?_
 refine A1 rfl (B7 rfl F5) ?_
 refine A4 (A3 (A3 (A2 ?_)))
 refine A5 rfl ?_
 refine A1 rfl (G9 rfl I4 (A0 rfl)) ?_
 refine A1 rfl (C1 rfl B6) ?_
 refine A4 (C8 ?_)
 refine J1 [(0, _), (2, _), (9, _), (10, _)] _ (fun (i : Nat) => i ≤ l.length ∧ l.all goodRec = (l.drop i).all goodRec) (fun (i : Nat) => []) (fun (i : Nat) => [(11, AV.int i)]) (fun (i : Nat) => l.length - i) (0) ?_ (K0 ⟨rfl, rfl, rfl, rfl, rfl, trivial⟩) ?_
 ·exact ⟨Nat.zero_le _, rfl⟩
 intro i hinv
 refine A3 (A2 ?_)
 refine A1 rfl (J6 rfl (A0 rfl) (A0 rfl)) ?_
 refine A4 (A3 ?_)
 refine C4 (A0 rfl) ?_ ?_
 ·intro h12
  have k12 := of_decide_eq_true h12; try simp only [A8] at k12
  have hlt : i < l.length := by omega
  obtain ⟨r, hx⟩ := get_some hlt
  have hgr := hr r (G4 hx)
  refine C7 (A3 (C8 (A3 (A2 ?_))))
  refine A1 rfl (I9 rfl I4 F8 (A0 rfl) (A0 rfl) hx (by first | omega | (simp only [D3, A9, szR] at *; omega))) ?_
  refine A1 rfl (K6 rfl (A0 rfl) M8 F8) ?_
  refine F9 rfl rfl rfl rfl Tryz.zeroValue104 rfl ?_
  intro b6
  refine D6 0 rfl rfl rfl (A0 rfl) (A0 rfl) (E7 _) rfl F8 rfl ?_
  refine A4 (A3 (A2 ?_))
  refine A1 rfl (F7 0 rfl (A0 rfl) rfl M8 F8 rfl) ?_
  refine A1 rfl (E4 rfl Tryz.call106 rfl (AQ3 _ (by first | assumption | omega)) (A7 (A0 rfl) C6)) ?_
  refine A1 rfl (M2 rfl (A0 rfl)) ?_
  refine A4 ?_
  refine C4 (A0 rfl) ?_ ?_
  ·intro h17
   have he : stateOfR l = (zState, [], false) := by (unfold stateOfR; rw [if_neg (by rw [hinv.2, drop_some hx, List.all_cons, AG9, show l4Good r = false by simpa using h17]; simp)])
   rw [he]
   refine A3 (A2 ?_)
   refine A1 rfl (O0 (places := #[(0, 1), (1, 1), (2, 1), (3, 1)]) rfl C0 Tryz.zeroValue43 (fun w => by kernel_rfl) rfl H7 rfl) ?_
   refine D6 1 rfl rfl rfl (A0 rfl) (A0 rfl) (E7 _) rfl C2 rfl ?_
   refine A1 rfl (B7 rfl O7) ?_
   refine A1 rfl (B7 rfl F5) ?_
   refine A4 ?_
   refine C5 ?_
   refine Z3 1 1 2 rfl rfl R5 ?_
   refine Z3 1 2 5 rfl rfl R5 ?_
   refine Z3 1 3 3 rfl rfl R5 ?_
   refine a8 4 1 ?_
   exact N5 [0] (Value.slice none 0 0) (trivial) rfl (by rfl) (W6 rfl (by decide) (F4 (L1 (ys := _) 2 rfl rfl E2 C2 rfl) (F4 (C3 rfl (by rfl)) (F4 (C3 rfl (by rfl)) M5))))
  intro h17
  refine C7 (A2 ?_)
  refine A1 rfl (G8 rfl (A0 rfl) B6 (by first | omega | (simp only [D3, A9, szR] at *; omega))) ?_
  refine A5 rfl ?_
  refine A4 ?_
  refine L4 i (i + 1) ?_ ?_ (U3 1 ⟨rfl, rfl, rfl, rfl, rfl, trivial⟩)
  ·exact ⟨by omega, by rw [hinv.2, drop_some hx, List.all_cons, AG9, show l4Good r = true by simpa using h17]; rfl⟩
  omega
 intro h12
 have k12 := of_decide_eq_false h12; try simp only [A8] at k12
 have hge : l.length ≤ i := by omega
 have hall : l.all goodRec = true := by (rw [hinv.2, List.drop_eq_nil_of_le hge]; rfl)
 refine G6 ?_
 refine A3 (A3 (A2 ?_))
 refine A5 rfl ?_
 refine A1 rfl (G9 rfl I4 (A0 rfl)) ?_
 refine A1 rfl (O5 rfl (A0 rfl) B6) ?_
 refine A4 ?_
 refine C4 (A0 rfl) ?_ ?_
 ·intro h22
  have k22 := of_decide_eq_true h22; try simp only [A8] at k22
  have he : stateOfR l = (zState, [], false) := by (unfold stateOfR; rw [if_neg (by omega)])
  rw [he]
  refine A3 (A2 ?_)
  refine A1 rfl (O0 (places := #[(0, 1), (1, 1), (2, 1), (3, 1)]) rfl C0 Tryz.zeroValue43 (fun w => by kernel_rfl) rfl H7 rfl) ?_
  refine D6 0 rfl rfl rfl (A0 rfl) (A0 rfl) (E7 _) rfl C2 rfl ?_
  refine A1 rfl (B7 rfl O7) ?_
  refine A1 rfl (B7 rfl F5) ?_
  refine A4 ?_
  refine C5 ?_
  refine Z3 0 1 2 rfl rfl R5 ?_
  refine Z3 0 2 5 rfl rfl R5 ?_
  refine Z3 0 3 3 rfl rfl R5 ?_
  refine a8 4 1 ?_
  exact N5 [0] (Value.slice none 0 0) (trivial) rfl (by rfl) (W6 rfl (by decide) (F4 (L1 (ys := _) 1 rfl rfl E2 C2 rfl) (F4 (C3 rfl (by rfl)) (F4 (C3 rfl (by rfl)) M5))))
 intro h22
 have k22 := of_decide_eq_false h22; try simp only [A8] at k22
 have hl6 : l.length ≤ 60 := by omega
 have he : stateOfR l = (stFrom zState l, didFrom zState l, true) := if_pos ⟨hl6, hall⟩
 rw [he]
 refine C7 (A3 (A2 ?_))
 refine A5 rfl ?_
 refine J7 [] rfl rfl rfl rfl Tryz.call107 rfl (of_own _ (by first | assumption | omega) (by assumption)) (A7 (A0 rfl) C6) rfl ?_
 intro x26 ok26
 refine A5 rfl ?_
 refine A1 rfl (H8 rfl (A0 rfl) rfl) ?_
 refine A1 rfl (H8 rfl (A0 rfl) rfl) ?_
 refine F9 rfl rfl rfl rfl Tryz.zeroValue43 rfl ?_
 intro b7
 refine D6 0 rfl rfl rfl (A0 rfl) (A0 rfl) (E7 _) rfl C2 rfl ?_
 refine B5 rfl ?_
 refine A4 (A3 (A2 ?_))
 refine A1 rfl (F7 0 rfl (A0 rfl) rfl E2 C2 rfl) ?_
 refine A5 rfl ?_
 refine D6 2 rfl rfl rfl (A0 rfl) (A0 rfl) (E7 _) rfl C2 rfl ?_
 refine B5 rfl ?_
 refine A1 rfl (B7 rfl F5) ?_
 refine A4 ?_
 refine C5 ?_
 exact N5 [1] x26 (trivial) rfl (by rfl) (W6 rfl (by decide) (F4 (L1 (ys := _) 2 rfl rfl E2 C2 rfl) (F4 (C3 rfl (by rfl)) (F4 (C3 rfl (by rfl)) M5))))
theorem Aa1 (l : List TRec) (hl : l.length ≤ 1048576) (hr : ∀ r ∈ l, r.size ≤ 1100) : FSpec Tryz.prog 67 [AV.list 7 (l.map TRec.cs)] (AV.tup [AV.agg (stateOfR l).1.cs, AV.list 1 ((stateOfR l).2.1.map fun b => [AV.bool b]), AV.bool (stateOfR l).2.2]) :=
  T3 (Am9 l hl hr) fun x _ => AK4 (H2 M4 (H2 (N1 (G4 (i := 0) rfl) J4) (H2 M4 V4)))
end Go.Proofs.YtkegepoihkhihaaGreat

namespace Go.Proofs.YtkegepoihkhihaaGreat
open Go Go.AV Go.M
attribute [local irreducible] OpW OpA OpS AWP FSpec ESpec GSpec OpE RetOk RetOkG RvDen Le Ev GuardIs SrcIs Int.tmod IntKind.wrap bandI
theorem Ax1 (b : Nat) (code : List Int) (hcode : ByteL code) (c : TCur) (hp : c.p ≤ 6000000) : GSpec Tryz.prog 227 [AV.ptr b 0] [.box b 114 (curC code c)] (fun x : TCur × Str => x.1.p ≤ c.p + 2 ∧ x.2.length ≤ 64) (fun x => [.box b 114 (curC code x.1)]) (fun x => AV.str x.2) := by
 refine J9 Tryz.func227 rfl Tryz.ntmps227 rfl ?_
 refine A3 (A2 ?_)
 refine A1 rfl (B7 rfl (S8 (l := []) rfl)) ?_
 refine A4 (A3 (A2 ?_))
 refine A5 rfl ?_
 refine A1 rfl (L0 rfl E3 E8 Tryz.zeroValue9 rfl rfl rfl rfl (D9 (S8 (l := []) rfl) (P2 _) (D9 (S8 (l := [49]) rfl) (P2 _) (D9 (S8 (l := [55]) rfl) (P2 _) (D9 (S8 (l := [49, 48]) rfl) (P2 _) (D9 (S8 (l := [45, 51]) rfl) (P2 _) (D9 (S8 (l := [120]) rfl) (P2 _) (D9 (S8 (l := [97, 44, 98, 95, 99]) rfl) (P2 _) H7))))))) rfl rfl) ?_
 refine J7 [0] rfl rfl rfl rfl Tryz.call211 rfl (Ae3 _ _ hcode _ ([[], [49], [55], [49, 48], [45, 51], [120], [97, 44, 98, 95, 99]] : List Str) (by decide) (by omega)) (A7 (A0 rfl) (A7 (A0 rfl) C6)) rfl ?_
 intro x5 ok5
 refine B5 rfl ?_
 refine A4 ?_
 refine C5 ?_
 (refine N5 [0] ((_, _)) ?_ rfl (by first | (dsimp only; rfl) | rfl) (S1 rfl (C3 rfl (by rfl))); exact ok5)
theorem An0 (b : Nat) (code : List Int) (hcode : ByteL code) (c : TCur) (key : Str) (hp : c.p ≤ 5000000) : GSpec Tryz.prog 212 [AV.ptr b 0, AV.str key] [.box b 114 (curC code c)] (fun x : TCur × TWrite => x.1.p ≤ c.p + 4 ∧ x.2.Key = key ∧ x.2.Val.length ≤ 64) (fun x => [.box b 114 (curC code x.1)]) (fun x => AV.agg x.2.cs) := by
 refine J9 Tryz.func212 rfl Tryz.ntmps212 rfl ?_
 refine A3 (A2 ?_)
 refine F9 rfl rfl rfl rfl Tryz.zeroValue101 rfl ?_
 intro b4
 refine A4 (A3 (A3 (A2 ?_)))
 refine A5 rfl ?_
 refine J7 [1] rfl rfl rfl rfl Tryz.call114 rfl (l7 _ _ hcode _ _ (by omega) (by omega)) (A7 (A0 rfl) (A7 B6 C6)) rfl ?_
 intro x6 ok6
 refine A4 ?_
 refine C4 (A0 rfl) ?_ ?_
 ·intro h6
  refine A3 (A2 ?_)
  refine A5 rfl ?_
  refine A1 rfl (O0 (places := #[(0, 1), (1, 1), (2, 1)]) rfl J0 Tryz.zeroValue101 (fun w => by kernel_rfl) rfl (D9 (A0 rfl) (P2 _) (D9 F5 (Y6 _) H7)) rfl) ?_
  refine D6 1 rfl rfl rfl (A0 rfl) (A0 rfl) (E7 _) rfl I3 rfl ?_
  refine A4 ?_
  refine C5 ?_
  (refine N5 [0] ((_, ⟨_, _, _⟩)) ?_ rfl (by first | (dsimp only; rfl) | rfl) (S1 rfl (L1 (ys := _) 1 rfl rfl U5 I3 rfl)); (dsimp only; first | exact ⟨by omega, rfl, by simp⟩ | exact ⟨by omega, rfl, ok11.2⟩))
 intro h6
 refine C7 (A3 (A2 ?_))
 refine A5 rfl ?_
 refine A5 rfl ?_
 refine J7 [0] rfl rfl rfl rfl Tryz.call227 rfl (Ax1 _ _ hcode _ (by omega)) (A7 (A0 rfl) C6) rfl ?_
 intro x11 ok11
 refine A1 rfl (O0 (places := #[(0, 1), (1, 1), (2, 1)]) rfl J0 Tryz.zeroValue101 (fun w => by kernel_rfl) rfl (D9 (A0 rfl) (P2 _) (D9 (A0 rfl) (P2 _) H7)) rfl) ?_
 refine D6 1 rfl rfl rfl (A0 rfl) (A0 rfl) (E7 _) rfl I3 rfl ?_
 refine A4 ?_
 refine C5 ?_
 (refine N5 [0] ((_, ⟨_, _, _⟩)) ?_ rfl (by first | (dsimp only; rfl) | rfl) (S1 rfl (L1 (ys := _) 1 rfl rfl U5 I3 rfl)); (dsimp only; first | exact ⟨by omega, rfl, by simp⟩ | exact ⟨by omega, rfl, ok11.2⟩))
def keysD : List Str := [[97], [98], [99], [105, 47, 120, 47, 49], [109], [110], [114, 47, 49], [122]]
theorem BA8 {s : Str} {i : Nat} (h : keysD[i]? = some s) : s.length ≤ 5 := by
  have : ∀ s ∈ keysD, s.length ≤ 5 := by decide
  exact this s (G4 h)
theorem Ai1 (b : Nat) (code : List Int) (hcode : ByteL code) (c : TCur) (hp : c.p ≤ 3000000) : GSpec Tryz.prog 171 [AV.ptr b 0] [.box b 114 (curC code c)] (fun x : TCur × List TWrite × Value => x.1.p ≤ c.p + 48 ∧ sizeL TWrite.size x.2.1 ≤ 560) (fun x => [.box b 114 (curC code x.1), .arr x.2.2 101 3 (x.2.1.map TWrite.cs)]) (fun x => AV.is x.2.2) := by
 refine J9 Tryz.func171 rfl Tryz.ntmps171 rfl ?_
 refine A3 (A2 ?_)
 refine A1 rfl (B7 rfl O7) ?_
 refine A4 (A3 (A2 ?_))
 refine j5 101 3 rfl rfl rfl rfl O7 ?_
 intro v3
 refine A4 (A3 (A3 (A2 ?_)))
 refine A1 rfl (L0 rfl E3 E8 Tryz.zeroValue9 rfl rfl rfl rfl (D9 (S8 (l := [97]) rfl) (P2 _) (D9 (S8 (l := [98]) rfl) (P2 _) (D9 (S8 (l := [99]) rfl) (P2 _) (D9 (S8 (l := [105, 47, 120, 47, 49]) rfl) (P2 _) (D9 (S8 (l := [109]) rfl) (P2 _) (D9 (S8 (l := [110]) rfl) (P2 _) (D9 (S8 (l := [114, 47, 49]) rfl) (P2 _) (D9 (S8 (l := [122]) rfl) (P2 _) H7)))))))) rfl rfl) ?_
 refine A1 rfl (G9 rfl E3 (A0 rfl)) ?_
 refine A1 rfl (C1 rfl B6) ?_
 refine A4 (C8 ?_)
 refine AWP.le (H4 [1, 0] rfl) ?_
 refine c7 [(0, _), (2, _), (6, _), (7, _)] _ (fun (i : Nat) (cc : TCur) (l : List TWrite) (v : Value) => i ≤ 8 ∧ cc.p ≤ c.p + 6 * i ∧ sizeL TWrite.size l ≤ 70 * i) (fun (i : Nat) (cc : TCur) (l : List TWrite) (v : Value) => [.box b 114 (curC code cc), .arr v 101 3 (l.map TWrite.cs)]) (fun (i : Nat) (cc : TCur) (l : List TWrite) (v : Value) => [(3, AV.is v), (8, AV.int i)]) (fun (i : Nat) (cc : TCur) (l : List TWrite) (v : Value) => 8 - i) (0) (c) ([]) (v3) ?_ (P8 (by rfl) ⟨rfl, rfl, rfl, rfl, rfl, rfl, trivial⟩) ?_
 ·exact ⟨by omega, by omega, by simp [sizeL]⟩
 intro i cc l v hinv
 refine A3 (A2 ?_)
 refine A1 rfl (J6 rfl (A0 rfl) (A0 rfl)) ?_
 refine A4 (A3 ?_)
 refine C4 (A0 rfl) ?_ ?_
 ·intro h9
  have k9 := of_decide_eq_true h9; try simp only [A8] at k9
  have hlt : i < 8 := by simp only [A9] at k9; omega
  obtain ⟨y, hy⟩ := get_some (show i < keysD.length from hlt)
  have hyl := BA8 hy
  have hyy : (keysD.map fun s => [AV.str s])[i]? = some [AV.str y] := by rw [List.getElem?_map, hy]; rfl
  have hll : l.length ≤ 560 := by have := O3 (f := TWrite.size) (l := l); omega
  refine C7 (A3 (C8 (A3 (A2 ?_))))
  refine A1 rfl (i6 rfl E3 E8 (A0 rfl) (A0 rfl) (by omega) (by rw [Int.toNat_natCast]; exact hyy)) ?_
  refine A1 rfl (N4 rfl (A0 rfl) G5 rfl) ?_
  refine B5 rfl ?_
  refine A4 (A3 (A2 ?_))
  refine A5 rfl ?_
  refine J7 [0] rfl rfl rfl rfl Tryz.call114 rfl (l7 _ _ hcode _ _ (by omega) (by omega)) (A7 (A0 rfl) (A7 B6 C6)) rfl ?_
  intro x13 ok13
  refine A4 ?_
  refine C4 (A0 rfl) ?_ ?_
  ·intro h13
   refine A2 ?_
   refine A5 rfl ?_
   refine A5 rfl ?_
   refine A5 rfl ?_
   refine J7 [0] rfl rfl rfl rfl Tryz.call212 rfl (An0 _ _ hcode _ _ (by omega)) (A7 (A0 rfl) (A7 (A0 rfl) C6)) rfl ?_
   intro x17 ok17
   refine A1 rfl (L0 rfl G3 I3 Tryz.zeroValue101 rfl rfl rfl rfl (D9 (A0 rfl) (E7 _) H7) rfl rfl) ?_
   refine M0 (by' := 40) 1 rfl rfl rfl rfl G3 Tryz.type101 rfl rfl rfl rfl rfl rfl (A0 rfl) (A0 rfl) rfl (by first | omega | (simp only [D3, A9, szR] at *; omega)) ?_
   intro v19_1
   refine B5 rfl ?_
   refine A4 (A2 ?_)
   refine A1 rfl (G8 rfl (A0 rfl) B6 (by first | omega | (simp only [D3, A9, szR] at *; omega))) ?_
   refine A5 rfl ?_
   refine A4 ?_
   refine U9 i cc l v (i + 1) (x17.1) (l ++ [x17.2]) (v19_1) ?_ ?_ (Le.trans (H4 [0, 0] rfl) (P8 (by first | rfl | (rw [List.map_append]; rfl)) ⟨rfl, rfl, rfl, rfl, rfl, rfl, trivial⟩))
   ·exact ⟨by omega, by omega, by (have h9 : x17.2.size ≤ 69 := by unfold TWrite.size; rw [ok17.2.1]; omega); rw [show sizeL TWrite.size (l ++ [x17.2]) = sizeL TWrite.size l + x17.2.size + 1 from by unfold sizeL; simp; omega]; omega⟩
   omega
  intro h13
  refine C7 (A2 ?_)
  refine A1 rfl (G8 rfl (A0 rfl) B6 (by first | omega | (simp only [D3, A9, szR] at *; omega))) ?_
  refine A5 rfl ?_
  refine A4 ?_
  refine U9 i cc l v (i + 1) (x13.1) (l) (v) ?_ ?_ (Le.trans (H4 [0, 0] rfl) (P8 (by first | rfl | (rw [List.map_append]; rfl)) ⟨rfl, rfl, rfl, rfl, rfl, rfl, trivial⟩))
  ·exact ⟨by omega, by omega, by omega⟩
  omega
 intro h9
 have k9 := of_decide_eq_false h9; try simp only [A8] at k9
 refine G6 ?_
 refine A3 (A2 ?_)
 refine A5 rfl ?_
 refine B5 rfl ?_
 refine A4 ?_
 refine C5 ?_
 (refine N5 [0, 0] ((cc, l, v)) ?_ rfl (by first | (dsimp only; rfl) | rfl) (S1 rfl (C3 rfl (by rfl))); exact ⟨show cc.p ≤ _ by omega, show sizeL TWrite.size l ≤ _ by omega⟩)
end Go.Proofs.YtkegepoihkhihaaGreat

set_option maxHeartbeats 2000000
namespace Go.M
open Go.AV
theorem Af3 (s : Str) : ∀ l : List Str, sizeL (fun x : Str => x.length) (putS l s) ≤ sizeL (fun x : Str => x.length) l + s.length + 1
  | [] => by unfold putS sizeL; simp; omega
  | y :: l => by
    have ih := Af3 s l
    have hc : ∀ (z : Str) (q : List Str), sizeL (fun x : Str => x.length) (z :: q) = sizeL (fun x : Str => x.length) q + z.length + 1 := fun z q => by unfold sizeL; simp; omega
    unfold putS
    split
    · rw [hc s]; omega
    · split
      · omega
      · rw [hc, hc]; omega
end Go.M
namespace Go.Proofs.YtkegepoihkhihaaGreat
open Go Go.AV Go.M
attribute [local irreducible] OpW OpA OpS AWP FSpec ESpec GSpec OpE RetOk RetOkG RvDen Le Ev GuardIs SrcIs Int.tmod Int.tdiv IntKind.wrap bandI
theorem Ax2 (b : Nat) (code : List Int) (hcode : ByteL code) (c : TCur) (hp : c.p ≤ 2000000) : GSpec Tryz.prog 116 [AV.ptr b 0] [.box b 114 (curC code c)] (fun x : TCur × TRec × Value × Value => x.1.p ≤ c.p + 100 ∧ x.2.1.size ≤ 1000 ∧ 0 ≤ x.2.1.Lead ∧ x.2.1.Lead ≤ 3 ∧ 0 ≤ x.2.1.Time ∧ x.2.1.Time ≤ 100001) (fun x => .box b 114 (curC code x.1) :: TRec.ow x.2.1 x.2.2) (fun x => AV.agg (TRec.ocs x.2.1 x.2.2)) := by
 refine J9 Tryz.func116 rfl Tryz.ntmps116 rfl ?_
 refine A3 (A2 ?_)
 refine F9 rfl rfl rfl rfl Tryz.zeroValue104 rfl ?_
 intro b2
 refine A4 (A3 (A2 ?_))
 refine A5 rfl ?_
 refine J7 [1] rfl rfl rfl rfl Tryz.call76 rfl (S4 _ _ hcode _ _ (by omega) (by omega)) (A7 (A0 rfl) (A7 B6 C6)) rfl ?_
 intro x6 ok6
 refine A1 rfl (G8 rfl B6 (A0 rfl) (by first | omega | (simp only [D3, A9, szR] at *; omega))) ?_
 refine A5 rfl ?_
 refine J7 [0] rfl rfl rfl rfl Tryz.call76 rfl (S4 _ _ hcode _ _ (by omega) (by omega)) (A7 (A0 rfl) (A7 B6 C6)) rfl ?_
 intro x9 ok9
 refine A1 rfl (G8 rfl B6 (A0 rfl) (by first | omega | (simp only [D3, A9, szR] at *; omega))) ?_
 refine A5 rfl ?_
 refine J7 [0] rfl rfl rfl rfl Tryz.call76 rfl (S4 _ _ hcode _ _ (by omega) (by omega)) (A7 (A0 rfl) (A7 B6 C6)) rfl ?_
 intro x12 ok12
 refine A1 rfl (G8 rfl B6 (A0 rfl) (by first | omega | (simp only [D3, A9, szR] at *; omega))) ?_
 refine A1 rfl (O0 (places := #[(0, 1), (1, 1), (2, 1), (3, 1), (4, 1), (5, 1), (6, 1)]) rfl B4 Tryz.zeroValue104 (fun w => by kernel_rfl) rfl (D9 (A0 rfl) (K5 _ _) (D9 (A0 rfl) (K5 _ _) (D9 (A0 rfl) (K5 _ _) H7))) rfl) ?_
 refine F9 rfl rfl rfl rfl Tryz.zeroValue104 rfl ?_
 intro b3
 refine D6 0 rfl rfl rfl (A0 rfl) (A0 rfl) (E7 _) rfl F8 rfl ?_
 refine A4 (A3 (A3 (A2 ?_)))
 refine A1 rfl (B1 0 rfl B4 rfl B3 (A0 rfl) rfl) ?_
 refine A1 rfl (B0 0 rfl (A0 rfl) rfl B9 rfl) ?_
 refine A4 (C8 (A3 (A2 ?_)))
 refine A1 rfl (P4 rfl (A0 rfl) B6) ?_
 refine B5 rfl ?_
 refine A4 ?_
 refine C4 (A0 rfl) ?_ ?_
 ·intro h24
  have k24 := O9 h24; try simp only [A8] at k24
  refine A3 (A2 ?_)
  refine A5 rfl ?_
  refine J7 [1] rfl rfl rfl rfl Tryz.call76 rfl (S4 _ _ hcode _ _ (by omega) (by omega)) (A7 (A0 rfl) (A7 B6 C6)) rfl ?_
  intro x27 ok27
  refine A1 rfl (B1 3 rfl B4 rfl B3 (A0 rfl) rfl) ?_
  refine K4 1 rfl rfl rfl (A0 rfl) (A0 rfl) (K5 _ _) rfl B3 rfl ?_
  refine A4 (A3 (A3 (A2 ?_)))
  refine A5 rfl ?_
  refine J7 [0] rfl rfl rfl rfl Tryz.call76 rfl (S4 _ _ hcode _ _ (by omega) (by omega)) (A7 (A0 rfl) (A7 B6 C6)) rfl ?_
  intro x30 ok30
  refine B5 rfl ?_
  refine A4 (C8 ?_)
  refine a6 9 1 ?_
  refine AWP.le (H4 [2, 1, 0] rfl) ?_
  refine c7 [(0, _), (2, _), (3, _)] _ (fun (n : Int) (cc : TCur) (l : List Str) (v : Value) => (0 ≤ n ∧ n + l.length ≤ 3) ∧ cc.p + 4 * n ≤ c.p + 22 ∧ SrtS l ∧ sizeL (fun x : Str => x.length) l + 70 * n ≤ 210) (fun (n : Int) (cc : TCur) (l : List Str) (v : Value) => [.box b3 104 [AV.int (1 + x6.2), AV.int (1 + x9.2), AV.int (1 + x12.2), AV.int x27.2, AV.is v, AV.nils, AV.bool false], .box b 114 (curC code cc), .arr v 9 1 (l.map fun t => [AV.str t])]) (fun (n : Int) (cc : TCur) (l : List Str) (v : Value) => [(4, AV.int n)]) (fun (n : Int) (cc : TCur) (l : List Str) (v : Value) => n.toNat) (x30.2) (x30.1) ([]) ((Value.slice none 0 0)) ?_ (P8 (by rfl) ⟨rfl, rfl, rfl, rfl, trivial⟩) ?_
  ·exact ⟨⟨by omega, by simp; omega⟩, by omega, List.Pairwise.nil, by simp [sizeL]; omega⟩
  intro n cc l v hinv
  refine A3 (A3 (A2 ?_))
  refine A5 rfl ?_
  refine A1 rfl (O5 rfl (A0 rfl) B6) ?_
  refine A4 ?_
  refine C4 (A0 rfl) ?_ ?_
  ·intro h32
   have k32 := of_decide_eq_true h32; try simp only [A8] at k32
   refine C7 (A3 (C8 ?_))
   refine U4 _ [(0, false), (1, false), (2, false), (3, true), (4, true)] (by kernel_rfl) (by kernel_rfl) rfl (W8 1) ?_
   refine G1 rfl rfl rfl (fun ext => B1 4 rfl B4 rfl M7 (A0 rfl) rfl) ?_
   refine G1 rfl rfl rfl (fun ext => B0 0 rfl (A0 rfl) rfl P6 rfl) ?_
   refine G1 rfl rfl rfl (fun ext => C1 rfl (A0 rfl)) ?_
   refine U2 rfl rfl rfl (n4 [1] rfl Tryz.call170 rfl (Aw0 _ _ hcode _ (by omega)) (A7 (A0 rfl) C6) rfl) (fun a _ => (by first | exact F2 rfl | exact F2 (List.append_assoc _ _ _) | exact I7)) ?_
   intro x38 ok38
   refine U2 rfl rfl rfl (n4 [1] rfl Tryz.call169 rfl (AI3 v l x38.2 hinv.2.2.1 (by omega)) (A7 (A0 rfl) (A7 (A0 rfl) C6)) rfl) (fun a _ => (by first | exact F2 rfl | exact F2 (List.append_assoc _ _ _) | exact I7)) ?_
   intro x39 ok39
   refine j7 ?_
   refine A1 rfl (B1 4 rfl B4 rfl M7 (A0 rfl) rfl) ?_
   refine W4 3 rfl fun one_x39 => ?_
   refine K4 0 rfl rfl rfl (A0 rfl) (A0 rfl) (V5 one_x39) rfl M7 rfl ?_
   refine A4 (A2 ?_)
   refine A5 rfl ?_
   refine A1 rfl (Q3 rfl (A0 rfl) B6 (by first | omega | (simp only [D3, A9, szR] at *; omega))) ?_
   refine B5 rfl ?_
   refine A4 ?_
   refine U9 n cc l v (n - 1) (x38.1) (putS l x38.2) (x39) ?_ ?_ (Le.trans (H4 [0, 1, 1] rfl) (P8 (by rfl) ⟨rfl, rfl, rfl, rfl, trivial⟩))
   ·(have h9 := AS5 x38.2 l; have h8 := Af3 x38.2 l; exact ⟨⟨by omega, by omega⟩, by omega, (AS4 hinv.2.2.1).1, by omega⟩)
   omega
  intro h32
  have k32 := of_decide_eq_false h32; try simp only [A8] at k32
  refine G6 ?_
  refine A3 (A2 ?_)
  refine A5 rfl ?_
  refine J7 [1] rfl rfl rfl rfl Tryz.call171 rfl (Ai1 _ _ hcode _ (by omega)) (A7 (A0 rfl) C6) rfl ?_
  intro x42 ok42
  refine A1 rfl (B1 5 rfl B4 rfl K2 (A0 rfl) rfl) ?_
  refine W4 1 rfl fun one_x42_2_2 => ?_
  refine K4 2 rfl rfl rfl (A0 rfl) (A0 rfl) (V5 one_x42_2_2) rfl K2 rfl ?_
  refine A4 (A3 (A2 ?_))
  refine A1 rfl (B1 4 rfl B4 rfl M7 (A0 rfl) rfl) ?_
  refine A1 rfl (B0 2 rfl (A0 rfl) rfl P6 rfl) ?_
  refine A1 rfl (W1 3 rfl E3 (A0 rfl) rfl) ?_
  refine A1 rfl (B1 5 rfl B4 rfl K2 (A0 rfl) rfl) ?_
  refine A1 rfl (B0 2 rfl (A0 rfl) rfl L9 rfl) ?_
  refine A1 rfl (W1 1 rfl G3 (A0 rfl) rfl) ?_
  refine A1 rfl (G8 rfl (A0 rfl) (A0 rfl) (by simp only [A8]; have h9 := O3 (f := TWrite.size) (l := x42.2.1); omega)) ?_
  refine A1 rfl (P4 rfl (A0 rfl) B6) ?_
  refine A4 ?_
  refine C4 (A0 rfl) ?_ ?_
  ·intro h51
   have k51 := O9 h51; try simp only [A8] at k51
   refine A2 ?_
   refine Au7 rfl rfl rfl rfl E3 E8 Tryz.zeroValue9 rfl rfl rfl rfl (D9 (S8 (l := [97]) rfl) (P2 _) H7) rfl rfl ?_
   intro v52
   refine A1 rfl (B1 4 rfl B4 rfl M7 (A0 rfl) rfl) ?_
   refine W4 0 rfl fun one_v52 => ?_
   refine K4 3 rfl rfl rfl (A0 rfl) (A0 rfl) (V5 one_v52) rfl M7 rfl ?_
   refine A4 (A3 (A2 ?_))
   refine A1 rfl (F7 3 rfl (A0 rfl) rfl M8 F8 rfl) ?_
   refine D6 5 rfl rfl rfl (A0 rfl) (A0 rfl) (E7 _) rfl F8 rfl ?_
   refine A4 ?_
   refine C5 ?_
   (refine N5 [1, 0, 0] ((x42.1, ⟨1 + x6.2, 1 + x9.2, 1 + x12.2, x27.2, [[97]], x42.2.1, false⟩, v52, x42.2.2)) ?_ rfl (by first | (dsimp only; rfl) | rfl) (S1 rfl (L1 (ys := _) 5 rfl rfl M8 F8 rfl)); (dsimp only [TRec.size]; exact ⟨by omega, by first | (simp [sizeL]; done) | (simp only [sizeL, J3, L6, List.map_cons, List.map_nil, List.sum_cons, List.sum_nil] at *; omega) | omega, by omega, by omega, by omega, by omega⟩))
  intro h51
  have k51 := O8 h51; try simp only [A8] at k51
  refine C7 (A3 (A2 ?_))
  refine A1 rfl (F7 2 rfl (A0 rfl) rfl M8 F8 rfl) ?_
  refine D6 4 rfl rfl rfl (A0 rfl) (A0 rfl) (E7 _) rfl F8 rfl ?_
  refine A4 ?_
  refine C5 ?_
  (refine N5 [0, 2, 0] ((x42.1, ⟨1 + x6.2, 1 + x9.2, 1 + x12.2, x27.2, l, x42.2.1, false⟩, v, x42.2.2)) ?_ rfl (by first | (dsimp only; rfl) | rfl) (S1 rfl (L1 (ys := _) 4 rfl rfl M8 F8 rfl)); (dsimp only [TRec.size]; exact ⟨by omega, by first | (simp [sizeL]; done) | (simp only [sizeL, J3, L6, List.map_cons, List.map_nil, List.sum_cons, List.sum_nil] at *; omega) | omega, by omega, by omega, by omega, by omega⟩))
 intro h24
 have k24 := O8 h24; try simp only [A8] at k24
 refine A3 (A2 ?_)
 refine A1 rfl (P4 rfl (A0 rfl) B6) ?_
 refine B5 rfl ?_
 refine A4 ?_
 refine C4 (A0 rfl) ?_ ?_
 ·intro h54
  have k54 := O9 h54; try simp only [A8] at k54
  refine A2 ?_
  refine A1 rfl (B1 1 rfl B4 rfl B3 (A0 rfl) rfl) ?_
  refine K4 0 rfl rfl rfl (A0 rfl) B6 (K5 _ _) rfl B3 rfl ?_
  refine A4 (A3 (A2 ?_))
  refine A1 rfl (F7 0 rfl (A0 rfl) rfl M8 F8 rfl) ?_
  refine D6 2 rfl rfl rfl (A0 rfl) (A0 rfl) (E7 _) rfl F8 rfl ?_
  refine A4 ?_
  refine C5 ?_
  refine a8 9 1 ?_
  refine a8 101 3 ?_
  (refine N5 [3, 1, 0] ((x12.1, ⟨1 + x6.2, 0, 1 + x12.2, 0, [], [], false⟩, Value.slice none 0 0, Value.slice none 0 0)) ?_ rfl (by first | (dsimp only; rfl) | rfl) (S1 rfl (L1 (ys := _) 4 rfl rfl M8 F8 rfl)); (dsimp only [TRec.size]; exact ⟨by omega, by first | (simp [sizeL]; done) | (simp only [sizeL, J3, L6, List.map_cons, List.map_nil, List.sum_cons, List.sum_nil] at *; omega) | omega, by omega, by omega, by omega, by omega⟩))
 intro h54
 have k54 := O8 h54; try simp only [A8] at k54
 refine A3 (A2 ?_)
 refine A5 rfl ?_
 refine J7 [1] rfl rfl rfl rfl Tryz.call114 rfl (l7 _ _ hcode _ _ (by omega) (by omega)) (A7 (A0 rfl) (A7 B6 C6)) rfl ?_
 intro x18 ok18
 refine A1 rfl (B1 6 rfl B4 rfl J8 (A0 rfl) rfl) ?_
 refine K4 1 rfl rfl rfl (A0 rfl) (A0 rfl) (Y6 _) rfl J8 rfl ?_
 refine A4 (A3 (A2 ?_))
 refine A1 rfl (B1 6 rfl B4 rfl J8 (A0 rfl) rfl) ?_
 refine A1 rfl (B0 1 rfl (A0 rfl) rfl L8 rfl) ?_
 refine A1 rfl (M2 rfl (A0 rfl)) ?_
 refine A4 ?_
 refine C4 (A0 rfl) ?_ ?_
 ·intro h22
  refine A2 ?_
  refine A1 rfl (B1 2 rfl B4 rfl B3 (A0 rfl) rfl) ?_
  refine K4 1 rfl rfl rfl (A0 rfl) B6 (K5 _ _) rfl B3 rfl ?_
  refine A4 (A3 (A2 ?_))
  refine A1 rfl (F7 1 rfl (A0 rfl) rfl M8 F8 rfl) ?_
  refine D6 2 rfl rfl rfl (A0 rfl) (A0 rfl) (E7 _) rfl F8 rfl ?_
  refine A4 ?_
  refine C5 ?_
  refine a8 9 1 ?_
  refine a8 101 3 ?_
  (refine N5 [2, 1, 0] ((x18.1, ⟨1 + x6.2, 1 + x9.2, 0, 0, [], [], x18.2⟩, Value.slice none 0 0, Value.slice none 0 0)) ?_ rfl (by first | (dsimp only; rfl) | rfl) (S1 rfl (L1 (ys := _) 4 rfl rfl M8 F8 rfl)); (dsimp only [TRec.size]; exact ⟨by omega, by first | (simp [sizeL]; done) | (simp only [sizeL, J3, L6, List.map_cons, List.map_nil, List.sum_cons, List.sum_nil] at *; omega) | omega, by omega, by omega, by omega, by omega⟩))
 intro h22
 refine C7 (A3 (A2 ?_))
 refine A1 rfl (F7 1 rfl (A0 rfl) rfl M8 F8 rfl) ?_
 refine D6 2 rfl rfl rfl (A0 rfl) (A0 rfl) (E7 _) rfl F8 rfl ?_
 refine A4 ?_
 refine C5 ?_
 refine a8 9 1 ?_
 refine a8 101 3 ?_
 (refine N5 [2, 1, 0] ((x18.1, ⟨1 + x6.2, 1 + x9.2, 1 + x12.2, 0, [], [], x18.2⟩, Value.slice none 0 0, Value.slice none 0 0)) ?_ rfl (by first | (dsimp only; rfl) | rfl) (S1 rfl (L1 (ys := _) 4 rfl rfl M8 F8 rfl)); (dsimp only [TRec.size]; exact ⟨by omega, by first | (simp [sizeL]; done) | (simp only [sizeL, J3, L6, List.map_cons, List.map_nil, List.sum_cons, List.sum_nil] at *; omega) | omega, by omega, by omega, by omega, by omega⟩))
end Go.Proofs.YtkegepoihkhihaaGreat
