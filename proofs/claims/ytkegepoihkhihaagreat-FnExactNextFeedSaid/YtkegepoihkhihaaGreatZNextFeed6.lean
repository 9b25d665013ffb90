/- Texts of the claim, part 6. -/
import Derived.Test.YtkegepoihkhihaaGreatZNextFeed5

set_option linter.unusedVariables false
set_option linter.unusedSimpArgs false
set_option maxRecDepth 100000
set_option maxHeartbeats 1000000
namespace Go.M
open Go.AV
theorem fullC_at {l : List TCell} {k : Str} {c : TCell} (hc : ¬ atC l k < 0 → findC l k = some c) : fullC l k = (decide ((0 : Int) ≤ atC l k) && decide ((16 : Int) ≤ (c.Vers.length : Int))) := by
  unfold fullC
  by_cases h : atC l k < 0
  · rw [An9 h, decide_eq_false (by omega)]; rfl
  · rw [hc h, decide_eq_true (by omega), Bool.true_and]
    dsimp only
    rw [decide_eq_decide]; omega
theorem at_some (l : List TCell) (k : Str) : ∃ c : TCell, ¬ atC l k < 0 → (∃ p : Nat, atC l k = (p : Int) ∧ l[p]? = some c) ∧ findC l k = some c := by
  by_cases h : atC l k < 0
  · exact ⟨⟨[], []⟩, fun k => absurd h k⟩
  · obtain ⟨p, c, h1, h2, h3⟩ := Ao0 h
    exact ⟨c, fun _ => ⟨⟨p, h1, h2⟩, h3⟩⟩
theorem s5 {s : TState} {i : Nat} {h y : THeld} (hx : s.Held[i]? = some h) (hy : s.Held[i - 1]? = some y) : heldAt s i = (!((!l4Good (hRec h) || decide (s.Floor < h.Time)) || (decide ((0 : Int) < (i : Int)) && decide (h.Txn ≤ y.Txn))) && ((s.Held.take i).all (fun g => apart g h.Reads h.Writes) && h.Writes.all fun w => decide (lastTime s.Cells w.Key < h.Time))) := by
  rw [p8 hx hy, Aq3]
  have h2 : ((s.Held.take i).all fun g => apart g h.Reads h.Writes) = !((s.Held.take i).any fun g => clash h g) := by
    rw [List.not_any_eq_all_not]; congr 1; funext g; rw [AJ6, Bool.not_not]
  have h3 : (h.Writes.all fun w => decide (lastTime s.Cells w.Key < h.Time)) = !(h.Writes.any fun w => decide (h.Time ≤ lastTime s.Cells w.Key)) := by
    rw [List.not_any_eq_all_not]; congr 1; funext w; rw [← decide_not, decide_eq_decide]; omega
  rw [h2, h3]
theorem AD2 {s : TState} {i : Nat} {t y : TTold} (hx : s.Told[i]? = some t) (hy : s.Told[i - 1]? = some y) : toldAt s i = (!((((!within t.Txn 1 60 || (decide ((0 : Int) < (i : Int)) && decide (t.Txn ≤ y.Txn))) || (t.Yes && !within t.Time 1 s.Floor)) || (!t.Yes && (t.Time != 0)))) && !hasH s.Held t.Txn) := by
  rw [y6 hx hy]
  congr 2
  show ((!within t.Txn 1 60 || _) || _) = _
  have e : (!((t.Yes && within t.Time 1 s.Floor) || (!t.Yes && (t.Time == 0)))) = ((t.Yes && !within t.Time 1 s.Floor) || (!t.Yes && (t.Time != 0))) := by
    show _ = ((t.Yes && !within t.Time 1 s.Floor) || (!t.Yes && !(t.Time == 0)))
    cases t.Yes <;> simp
  rw [e]
  cases within t.Txn 1 60 <;> cases (decide ((0 : Int) < (i : Int)) && decide (t.Txn ≤ y.Txn)) <;> cases (t.Yes && !within t.Time 1 s.Floor) <;> cases (!t.Yes && (t.Time != 0)) <;> rfl
def heldFO (l : List THeld) (n : Int) : THeld × Bool := match findH l n with | some h => (h, true) | none => (zHeld, false)
theorem AW9 (l : List THeld) (n : Int) : (heldFO l n).2 = hasH l n := by
  unfold heldFO
  cases h : findH l n with
  | none => exact (Aq7.1 h).symm
  | some x => obtain ⟨h1, h2⟩ := Aq6 h; exact (hasH_iff.2 ⟨x, h1, h2⟩).symm
theorem AP9 {α : Type} {p : α → Bool} : ∀ {l : List α} {i : Nat} {x : α}, l[i]? = some x → p x = true → (∀ j y, j < i → l[j]? = some y → p y = false) → l.find? p = some x
  | [], i, x, h, _, _ => by simp at h
  | y :: l, 0, x, h, hp, _ => by simp at h; subst h; rw [List.find?_cons, hp]
  | y :: l, i + 1, x, h, hp, hn => by
    rw [List.find?_cons, hn 0 y (by omega) rfl]
    exact AP9 (by simpa using h) hp fun j z hj hz => hn (j + 1) z (by omega) (by simpa using hz)
theorem find_not {α : Type} {p : α → Bool} {l : List α} (hn : ∀ (j : Nat) (y : α), l[j]? = some y → p y = false) : l.find? p = none := by
  rw [List.find?_eq_none]
  intro x hx
  obtain ⟨j, hj⟩ := List.getElem?_of_mem hx
  rw [hn j x hj]; decide
end Go.M
namespace Go.Proofs.YtkegepoihkhihaaGreat
open Go Go.AV Go.M
attribute [local irreducible] OpW OpA OpS AWP FSpec ESpec GSpec OpE RetOk RetOkG RvDen Le Ev GuardIs SrcIs Int.tmod Int.tdiv IntKind.wrap
theorem AZ9 (h : THeld) : FSpec Tryz.prog 177 [AV.agg h.cs] (AV.agg (hRec h).cs) := by
 refine D0 Tryz.func177 rfl Tryz.ntmps177 rfl ?_
 refine A3 (A2 ?_)
 refine I6 rfl rfl rfl rfl (A0 rfl) ?_
 intro b1
 refine I2 rfl rfl rfl rfl Tryz.zeroValue104 rfl ?_
 intro b2
 refine A4 (A3 (A2 ?_))
 refine A1 rfl (B5 0 rfl E1 rfl B9 (A0 rfl) rfl) ?_
 refine A1 rfl (B2 1 rfl (A0 rfl) rfl D1 rfl) ?_
 refine A1 rfl (B5 1 rfl E1 rfl B9 (A0 rfl) rfl) ?_
 refine A1 rfl (B2 1 rfl (A0 rfl) rfl D1 rfl) ?_
 refine A1 rfl (B5 2 rfl E1 rfl B9 (A0 rfl) rfl) ?_
 refine A1 rfl (B2 1 rfl (A0 rfl) rfl D1 rfl) ?_
 refine A1 rfl (B5 3 rfl E1 rfl L0 (A0 rfl) rfl) ?_
 refine A1 rfl (B2 1 rfl (A0 rfl) rfl N4 rfl) ?_
 refine A1 rfl (B5 4 rfl E1 rfl J6 (A0 rfl) rfl) ?_
 refine A1 rfl (B2 1 rfl (A0 rfl) rfl K6 rfl) ?_
 refine A1 rfl (Z0 (places := #[(0, 1), (1, 1), (2, 1), (3, 1), (4, 1), (5, 1), (6, 1)]) rfl E0 Tryz.zeroValue104 (fun w => by kernel_rfl) rfl (M8 B4 (P0 _ _) (M8 (A0 rfl) (P0 _ _) (M8 (A0 rfl) (P0 _ _) (M8 (A0 rfl) (P0 _ _) (M8 (A0 rfl) (c4 _ _) (M8 (A0 rfl) (c4 _ _) S7)))))) rfl) ?_
 refine G9 0 rfl rfl rfl (A0 rfl) (A0 rfl) (I7 _) rfl Tryz.sizeOf104 rfl ?_
 refine A4 ?_
 refine B8 ?_
 exact E4 rfl (S6 (ys := _) 0 rfl rfl Tryz.isAgg104 Tryz.sizeOf104 rfl)
theorem AQ0 (l : List TWrite) (k : Str) : FSpec Tryz.prog 214 [AV.list 3 (l.map TWrite.cs), AV.str k] (AV.bool (hasK l k)) := by
 refine D0 Tryz.func214 rfl Tryz.ntmps214 rfl ?_
 refine M6 (t := 0) rfl fun hl => ?_
 try simp only [A6] at hl
 refine A3 (A2 ?_)
 refine A1 rfl (A7 rfl E2) ?_
 refine A4 (A3 (A3 (A2 ?_)))
 refine A5 rfl ?_
 refine A1 rfl (E7 rfl F0 (A0 rfl)) ?_
 refine A1 rfl (C4 rfl B4) ?_
 refine A4 (C3 ?_)
 refine G4 [(1, _), (7, _), (8, _)] _ (fun (i : Nat) => i ≤ l.length ∧ hasK l k = (l.drop i).any (fun w => w.Key == k)) (fun (i : Nat) => []) (fun (i : Nat) => [(9, AV.int i)]) (fun (i : Nat) => l.length - i) (0) ?_ (G6 ⟨rfl, rfl, rfl, rfl, trivial⟩) ?_
 ·exact ⟨Nat.zero_le _, rfl⟩
 intro i hinv
 refine A3 (A2 ?_)
 refine A1 rfl (F7 rfl (A0 rfl) (A0 rfl)) ?_
 refine A4 (A3 ?_)
 refine C0 (A0 rfl) ?_ ?_
 ·intro h10
  have k10 := of_decide_eq_true h10; try simp only [A6] at k10
  have hlt : i < l.length := by omega
  obtain ⟨x, hx⟩ := get_some hlt
  refine C1 (A3 (C3 (A3 (A2 ?_))))
  refine A1 rfl (I8 rfl F0 G5 (A0 rfl) (A0 rfl) hx (by first | omega | (simp only [D3, B0, szR] at *; omega))) ?_
  refine A1 rfl (H0 rfl (A0 rfl) Q4 G5) ?_
  refine I2 rfl rfl rfl rfl Tryz.zeroValue101 rfl ?_
  intro b6
  refine G9 0 rfl rfl rfl (A0 rfl) (A0 rfl) (I7 _) rfl G5 rfl ?_
  refine A4 (A3 (A2 ?_))
  refine A1 rfl (B5 0 rfl G7 rfl D2 (A0 rfl) rfl) ?_
  refine A1 rfl (B2 0 rfl (A0 rfl) rfl E6 rfl) ?_
  refine A5 rfl ?_
  refine A1 rfl (t1 rfl (A0 rfl) (A0 rfl)) ?_
  refine A4 ?_
  refine C0 (A0 rfl) ?_ ?_
  ·intro h16
   refine A3 (A2 ?_)
   refine A1 rfl (A7 rfl E2) ?_
   refine A4 ?_
   refine B8 ?_
   exact E4 rfl (B7 rfl (by first | exact congrArg AV.bool (by rw [hinv.2, drop_some hx, List.any_cons, h16]; rfl) | exact congrArg AV.bool (by rw [hinv.2, List.drop_eq_nil_of_le hge]; rfl)))
  intro h16
  refine C1 (A2 ?_)
  refine A1 rfl (E9 rfl (A0 rfl) B4 (by first | omega | (simp only [D3, B0, szR] at *; omega))) ?_
  refine A5 rfl ?_
  refine A4 ?_
  refine H6 i (i + 1) ?_ ?_ (T3 1 ⟨rfl, rfl, rfl, rfl, trivial⟩)
  ·exact ⟨by omega, by rw [hinv.2, drop_some hx, List.any_cons, h16]; rfl⟩
  omega
 intro h10
 have k10 := of_decide_eq_false h10; try simp only [A6] at k10
 have hge : l.length ≤ i := by omega
 refine F1 ?_
 refine A3 (A2 ?_)
 refine A1 rfl (A7 rfl E2) ?_
 refine A4 ?_
 refine B8 ?_
 exact E4 rfl (B7 rfl (by first | exact congrArg AV.bool (by rw [hinv.2, drop_some hx, List.any_cons, h16]; rfl) | exact congrArg AV.bool (by rw [hinv.2, List.drop_eq_nil_of_le hge]; rfl)))
theorem Ar5 (l : List Str) (k : Str) : FSpec Tryz.prog 215 [strs l, AV.str k] (AV.bool (hasS l k)) := by
 refine D0 Tryz.func215 rfl Tryz.ntmps215 rfl ?_
 refine M6 (t := 0) rfl fun hl => ?_
 try simp only [A6] at hl
 refine A3 (A2 ?_)
 refine A1 rfl (A7 rfl E2) ?_
 refine A4 (A3 (A3 (A2 ?_)))
 refine A5 rfl ?_
 refine A1 rfl (E7 rfl D6 (A0 rfl)) ?_
 refine A1 rfl (C4 rfl B4) ?_
 refine A4 (C3 ?_)
 refine G4 [(1, _), (7, _), (8, _)] _ (fun (i : Nat) => i ≤ l.length ∧ hasS l k = (l.drop i).any (fun x => k == x)) (fun (i : Nat) => []) (fun (i : Nat) => [(9, AV.int i)]) (fun (i : Nat) => l.length - i) (0) ?_ (G6 ⟨rfl, rfl, rfl, rfl, trivial⟩) ?_
 ·exact ⟨Nat.zero_le _, rfl⟩
 intro i hinv
 refine A3 (A2 ?_)
 refine A1 rfl (F7 rfl (A0 rfl) (A0 rfl)) ?_
 refine A4 (A3 ?_)
 refine C0 (A0 rfl) ?_ ?_
 ·intro h10
  have k10 := of_decide_eq_true h10; try simp only [A6] at k10
  have hlt : i < l.length := by omega
  obtain ⟨x, hx⟩ := get_some hlt
  refine C1 (A3 (C3 (A3 (A2 ?_))))
  refine A1 rfl (I8 rfl D6 D2 (A0 rfl) (A0 rfl) hx (by first | omega | (simp only [D3, B0, szR] at *; omega))) ?_
  refine A1 rfl (K1 rfl (A0 rfl) E6 rfl) ?_
  refine B1 rfl ?_
  refine A4 (A3 (A2 ?_))
  refine A5 rfl ?_
  refine A5 rfl ?_
  refine A1 rfl (t1 rfl (A0 rfl) (A0 rfl)) ?_
  refine A4 ?_
  refine C0 (A0 rfl) ?_ ?_
  ·intro h15
   refine A3 (A2 ?_)
   refine A1 rfl (A7 rfl E2) ?_
   refine A4 ?_
   refine B8 ?_
   exact E4 rfl (B7 rfl (by first | exact congrArg AV.bool (by rw [hinv.2, drop_some hx, List.any_cons, show (k == x) = true from by have h9 := h15; simp at h9 ⊢; exact h9.symm]; rfl) | exact congrArg AV.bool (by rw [hinv.2, List.drop_eq_nil_of_le hge]; rfl)))
  intro h15
  refine C1 (A2 ?_)
  refine A1 rfl (E9 rfl (A0 rfl) B4 (by first | omega | (simp only [D3, B0, szR] at *; omega))) ?_
  refine A5 rfl ?_
  refine A4 ?_
  refine H6 i (i + 1) ?_ ?_ (G6 ⟨rfl, rfl, rfl, rfl, trivial⟩)
  ·exact ⟨by omega, by rw [hinv.2, drop_some hx, List.any_cons, show (k == x) = false from by have h9 := h15; simp at h9 ⊢; exact fun e => h9 e.symm]; rfl⟩
  omega
 intro h10
 have k10 := of_decide_eq_false h10; try simp only [A6] at k10
 have hge : l.length ≤ i := by omega
 refine F1 ?_
 refine A3 (A2 ?_)
 refine A1 rfl (A7 rfl E2) ?_
 refine A4 ?_
 refine B8 ?_
 exact E4 rfl (B7 rfl (by first | exact congrArg AV.bool (by rw [hinv.2, drop_some hx, List.any_cons, show (k == x) = true from by have h9 := h15; simp at h9 ⊢; exact h9.symm]; rfl) | exact congrArg AV.bool (by rw [hinv.2, List.drop_eq_nil_of_le hge]; rfl)))
theorem apart_spec (h : THeld) (rs : List Str) (ws : List TWrite) : FSpec Tryz.prog 178 [AV.agg h.cs, strs rs, AV.list 3 (ws.map TWrite.cs)] (AV.bool (apart h rs ws)) := by
 refine D0 Tryz.func178 rfl Tryz.ntmps178 rfl ?_
 refine M6 (t := 1) rfl fun hl1 => ?_
 try simp only [A6] at hl1
 refine M6 (t := 2) rfl fun hl2 => ?_
 try simp only [A6] at hl2
 refine A3 (A2 ?_)
 refine I6 rfl rfl rfl rfl (A0 rfl) ?_
 intro b3
 refine A1 rfl (A7 rfl E2) ?_
 refine A4 (A3 (A3 (A2 ?_)))
 refine A5 rfl ?_
 refine A1 rfl (E7 rfl D6 (A0 rfl)) ?_
 refine A1 rfl (C4 rfl B4) ?_
 refine A4 (C3 ?_)
 refine G4 [(2, _), (3, _), (11, _), (12, _)] _ (fun (i : Nat) => i ≤ rs.length ∧ (rs.all fun k => !hasK h.Writes k) = ((rs.drop i).all fun k => !hasK h.Writes k)) (fun (i : Nat) => []) (fun (i : Nat) => [(13, AV.int i)]) (fun (i : Nat) => rs.length - i) (0) ?_ (G6 ⟨rfl, rfl, rfl, rfl, rfl, trivial⟩) ?_
 ·exact ⟨Nat.zero_le _, rfl⟩
 intro i hinv
 refine A3 (A2 ?_)
 refine A1 rfl (F7 rfl (A0 rfl) (A0 rfl)) ?_
 refine A4 (A3 ?_)
 refine C0 (A0 rfl) ?_ ?_
 ·intro h14
  have k14 := of_decide_eq_true h14; try simp only [A6] at k14
  have hlt : i < rs.length := by omega
  obtain ⟨x, hx⟩ := get_some hlt
  refine C1 (A3 (C3 (A3 (A2 ?_))))
  refine A1 rfl (I8 rfl D6 D2 (A0 rfl) (A0 rfl) hx (by first | omega | (simp only [D3, B0, szR] at *; omega))) ?_
  refine A1 rfl (K1 rfl (A0 rfl) E6 rfl) ?_
  refine B1 rfl ?_
  refine A4 (A3 (A2 ?_))
  refine A1 rfl (B5 4 rfl E1 rfl J6 (A0 rfl) rfl) ?_
  refine A1 rfl (B2 0 rfl (A0 rfl) rfl K6 rfl) ?_
  refine A5 rfl ?_
  refine A1 rfl (D8 rfl Tryz.call214 rfl (AQ0 _ _) (A8 (A0 rfl) (A8 (A0 rfl) C8))) ?_
  refine A4 ?_
  refine C0 (A0 rfl) ?_ ?_
  ·intro h20
   have hfin : apart h rs ws = false := by (unfold apart; rw [hinv.2, drop_some hx, List.all_cons, h20]; rfl)
   refine A3 (A2 ?_)
   refine A1 rfl (A7 rfl E2) ?_
   refine A4 ?_
   refine B8 ?_
   exact E4 rfl (B7 rfl (by exact congrArg AV.bool hfin.symm))
  intro h20
  refine C1 (A2 ?_)
  refine A1 rfl (E9 rfl (A0 rfl) B4 (by first | omega | (simp only [D3, B0, szR] at *; omega))) ?_
  refine A5 rfl ?_
  refine A4 ?_
  refine H6 i (i + 1) ?_ ?_ (G6 ⟨rfl, rfl, rfl, rfl, rfl, trivial⟩)
  ·exact ⟨by omega, by rw [hinv.2, drop_some hx, List.all_cons, h20]; rfl⟩
  omega
 intro h14
 have k14 := of_decide_eq_false h14; try simp only [A6] at k14
 have hge : rs.length ≤ i := by omega
 have hr : (rs.all fun k => !hasK h.Writes k) = true := by (rw [hinv.2, List.drop_eq_nil_of_le hge]; rfl)
 refine F1 ?_
 refine A3 (A3 (A2 ?_))
 refine A5 rfl ?_
 refine A1 rfl (E7 rfl F0 (A0 rfl)) ?_
 refine A1 rfl (C4 rfl B4) ?_
 refine A4 (C3 ?_)
 refine G4 [(3, _), (22, _), (23, _)] _ (fun (q : Nat) => q ≤ ws.length ∧ (ws.all fun w => !(hasK h.Writes w.Key || hasS h.Reads w.Key)) = ((ws.drop q).all fun w => !(hasK h.Writes w.Key || hasS h.Reads w.Key))) (fun (q : Nat) => []) (fun (q : Nat) => [(24, AV.int q)]) (fun (q : Nat) => ws.length - q) (0) ?_ (G6 ⟨rfl, rfl, rfl, rfl, trivial⟩) ?_
 ·exact ⟨Nat.zero_le _, rfl⟩
 intro q hinv
 refine A3 (A2 ?_)
 refine A1 rfl (F7 rfl (A0 rfl) (A0 rfl)) ?_
 refine A4 (A3 ?_)
 refine C0 (A0 rfl) ?_ ?_
 ·intro h25
  have k25 := of_decide_eq_true h25; try simp only [A6] at k25
  have hlt : q < ws.length := by omega
  obtain ⟨x, hx⟩ := get_some hlt
  refine C1 (A3 (C3 (A3 (A2 ?_))))
  refine A1 rfl (I8 rfl F0 G5 (A0 rfl) (A0 rfl) hx (by first | omega | (simp only [D3, B0, szR] at *; omega))) ?_
  refine A1 rfl (H0 rfl (A0 rfl) Q4 G5) ?_
  refine I2 rfl rfl rfl rfl Tryz.zeroValue101 rfl ?_
  intro b10
  refine G9 0 rfl rfl rfl (A0 rfl) (A0 rfl) (I7 _) rfl G5 rfl ?_
  refine A4 (A3 (A2 ?_))
  refine A1 rfl (B5 4 rfl E1 rfl J6 (A0 rfl) rfl) ?_
  refine A1 rfl (B2 1 rfl (A0 rfl) rfl K6 rfl) ?_
  refine A1 rfl (B5 0 rfl G7 rfl D2 (A0 rfl) rfl) ?_
  refine A1 rfl (B2 0 rfl (A0 rfl) rfl E6 rfl) ?_
  refine A1 rfl (D8 rfl Tryz.call214 rfl (AQ0 _ _) (A8 (A0 rfl) (A8 (A0 rfl) C8))) ?_
  refine A5 rfl ?_
  refine I3 rfl (fun hc => B5 3 rfl E1 rfl L0 (A0 rfl) rfl) ?_
  refine I3 rfl (fun hc => B2 1 rfl (A9 rfl hc) rfl N4 rfl) ?_
  refine I3 rfl (fun hc => B5 0 rfl G7 rfl D2 (A0 rfl) rfl) ?_
  refine I3 rfl (fun hc => B2 0 rfl (A9 rfl hc) rfl E6 rfl) ?_
  refine I3 rfl (fun hc => D8 rfl Tryz.call215 rfl (Ar5 _ _) (A8 (A9 rfl hc) (A8 (A9 rfl hc) C8))) ?_
  refine A1 rfl (P4 rfl (A0 rfl) (F6 rfl)) ?_
  refine A4 ?_
  refine C0 (A0 rfl) ?_ ?_
  ·intro h39
   have hfin : apart h rs ws = false := by (unfold apart; rw [hinv.2, drop_some hx, List.all_cons, h39]; simp)
   refine A3 (A2 ?_)
   refine A1 rfl (A7 rfl E2) ?_
   refine A4 ?_
   refine B8 ?_
   exact E4 rfl (B7 rfl (by exact congrArg AV.bool hfin.symm))
  intro h39
  refine C1 (A2 ?_)
  refine A1 rfl (E9 rfl (A0 rfl) B4 (by first | omega | (simp only [D3, B0, szR] at *; omega))) ?_
  refine A5 rfl ?_
  refine A4 ?_
  refine H6 q (q + 1) ?_ ?_ (T3 1 ⟨rfl, rfl, rfl, rfl, trivial⟩)
  ·exact ⟨by omega, by rw [hinv.2, drop_some hx, List.all_cons, h39]; rfl⟩
  omega
 intro h25
 have k25 := of_decide_eq_false h25; try simp only [A6] at k25
 have hge : ws.length ≤ q := by omega
 have hfin : apart h rs ws = true := by (unfold apart; rw [hr, hinv.2, List.drop_eq_nil_of_le hge]; rfl)
 refine F1 ?_
 refine A3 (A2 ?_)
 refine A1 rfl (A7 rfl E2) ?_
 refine A4 ?_
 refine B8 ?_
 exact E4 rfl (B7 rfl (by exact congrArg AV.bool hfin.symm))
theorem Ak8 (l : List THeld) (q : Nat) : (hWs (l.take q)).length ≤ (hWs l).length := by
  have h := AP0 (l.take q) (l.drop q)
  rw [List.take_append_drop] at h
  rw [h, I5]; omega
theorem Ar6 (s : TState) (ws : List TWrite) (hs : s.size ≤ 1048576) (hb : s.Cells.length + ws.length + (hWs s.Held).length ≤ 800000) : FSpec Tryz.prog 179 [AV.agg s.cs, AV.list 3 (ws.map TWrite.cs)] (AV.bool (room s.Cells (ws ++ hWs s.Held))) := by
 obtain ⟨hs1, hs2, hs3, hs4, hs5⟩ := c7 hs
 obtain ⟨p, hp⟩ : ∃ p : TWrite → Bool, p = fun w => !fullC s.Cells w.Key := ⟨_, rfl⟩
 obtain ⟨al, hal⟩ : ∃ al, ws ++ hWs s.Held = al := ⟨_, rfl⟩
 have hall : al.length ≤ 800000 - s.Cells.length := by rw [← hal, I5]; omega
 rw [hal]
 refine D0 Tryz.func179 rfl Tryz.ntmps179 rfl ?_
 refine A3 (A2 ?_)
 refine I6 rfl rfl rfl rfl (A0 rfl) ?_
 intro b2
 refine A1 rfl (A7 rfl E2) ?_
 refine A4 (A3 (A2 ?_))
 refine At3 9 1 rfl rfl rfl rfl S0 ?_
 intro v5
 refine A4 (A3 (A3 (A2 ?_)))
 refine A1 rfl (B5 1 rfl E3 rfl L6 (A0 rfl) rfl) ?_
 refine A1 rfl (B2 1 rfl (A0 rfl) rfl O3 rfl) ?_
 refine A1 rfl (E7 rfl F3 (A0 rfl)) ?_
 refine A1 rfl (C4 rfl B4) ?_
 refine A4 (C3 ?_)
 refine J7 [(1, _), (2, _), (4, _), (15, _), (16, _)] _ (fun (i : Nat) (v : Value) => i ≤ s.Cells.length) (fun (i : Nat) (v : Value) => [.arr v 9 1 ((putAllS (cKeys (s.Cells.take i)) []).map fun s => [AV.str s])]) (fun (i : Nat) (v : Value) => [(5, AV.is v), (17, AV.int i)]) (fun (i : Nat) (v : Value) => s.Cells.length - i) (0) (v5) ?_ (J9 (by rfl) ⟨rfl, rfl, rfl, rfl, rfl, rfl, rfl, trivial⟩) ?_
 ·exact Nat.zero_le _
 intro i v hinv
 refine A3 (A2 ?_)
 refine A1 rfl (F7 rfl (A0 rfl) (A0 rfl)) ?_
 refine A4 (A3 ?_)
 refine C0 (A0 rfl) ?_ ?_
 ·intro h18
  have k18 := of_decide_eq_true h18; try simp only [A6] at k18
  have hlt : i < s.Cells.length := by omega
  obtain ⟨c, hx⟩ := get_some hlt
  have hpl := AA2 (cKeys (s.Cells.take i)) []
  unfold cKeys at hpl
  simp only [A6, F8, X1] at hpl
  refine C1 (A3 (C3 (A3 (A2 ?_))))
  refine A1 rfl (I8 rfl F3 F2 (A0 rfl) (A0 rfl) hx (by first | omega | (simp only [D3, B0, szR] at *; omega))) ?_
  refine A1 rfl (H0 rfl (A0 rfl) O0 F2) ?_
  refine I2 rfl rfl rfl rfl Tryz.zeroValue125 rfl ?_
  intro b7
  refine G9 0 rfl rfl rfl (A0 rfl) (A0 rfl) (I7 _) rfl F2 rfl ?_
  refine A4 (A2 ?_)
  refine A5 rfl ?_
  refine A1 rfl (B5 0 rfl F9 rfl D2 (A0 rfl) rfl) ?_
  refine A1 rfl (B2 0 rfl (A0 rfl) rfl E6 rfl) ?_
  refine S9 [1] rfl rfl rfl rfl Tryz.call169 rfl (AP8 v (putAllS (cKeys (s.Cells.take i)) []) c.Key (o5 List.Pairwise.nil).1 (by unfold cKeys; omega)) (A8 (A0 rfl) (A8 (A0 rfl) C8)) rfl ?_
  intro x24 ok24
  refine B1 rfl ?_
  refine A4 (A2 ?_)
  refine A1 rfl (E9 rfl (A0 rfl) B4 (by first | omega | (simp only [D3, B0, szR] at *; omega))) ?_
  refine A5 rfl ?_
  refine A4 ?_
  refine J5 i v (i + 1) (x24) ?_ ?_ (Le.trans (P2 [1, 0] rfl) (S8 1 (by exact congrArg (fun z => Own.arr _ 9 1 (List.map (fun s => [AV.str s]) z) :: _) (by unfold cKeys; rw [List.take_add_one, hx, List.map_append]; exact (AG5 _ _ _).symm)) ⟨rfl, rfl, rfl, rfl, rfl, rfl, rfl, trivial⟩))
  ·omega
  omega
 intro h18
 have k18 := of_decide_eq_false h18; try simp only [A6] at k18
 have hge : s.Cells.length ≤ i := by omega
 rw [List.take_of_length_le hge]
 refine F1 ?_
 refine A3 (A2 ?_)
 refine T2 rfl rfl rfl rfl F0 G5 ?_
 intro v26
 refine A5 rfl ?_
 refine U6 (by' := 40) 0 rfl rfl rfl rfl F0 Tryz.type101 rfl rfl rfl rfl rfl rfl (A0 rfl) (A0 rfl) rfl (by simp only [X1, A6]; omega) ?_
 intro v28_1
 refine B1 rfl ?_
 refine A4 (A3 (A3 (A2 ?_)))
 refine A1 rfl (B5 2 rfl E3 rfl M9 (A0 rfl) rfl) ?_
 refine A1 rfl (B2 2 rfl (A0 rfl) rfl P9 rfl) ?_
 refine A1 rfl (E7 rfl F5 (A0 rfl)) ?_
 refine A1 rfl (C4 rfl B4) ?_
 refine A4 (C3 ?_)
 refine Y3 [(2, _), (4, _), (5, _), (30, _), (31, _)] _ (fun (q : Nat) (u : Value) (a : List TWrite) => q ≤ s.Held.length ∧ a = ws ++ hWs (s.Held.take q)) (fun (q : Nat) (u : Value) (a : List TWrite) => [.arr u 101 3 (a.map TWrite.cs)]) (fun (q : Nat) (u : Value) (a : List TWrite) => [(8, AV.is u), (32, AV.int q)]) (fun (q : Nat) (u : Value) (a : List TWrite) => s.Held.length - q) (0) (v28_1) (ws) ?_ (J9 (by rfl) ⟨rfl, rfl, rfl, rfl, rfl, rfl, rfl, trivial⟩) ?_
 ·exact ⟨Nat.zero_le _, by rw [List.take_zero]; exact (List.append_nil _).symm⟩
 intro q u a hinv
 refine A3 (A2 ?_)
 refine A1 rfl (F7 rfl (A0 rfl) (A0 rfl)) ?_
 refine A4 (A3 ?_)
 refine C0 (A0 rfl) ?_ ?_
 ·intro h33
  have k33 := of_decide_eq_true h33; try simp only [A6] at k33
  have hlt : q < s.Held.length := by omega
  obtain ⟨h, hx⟩ := get_some hlt
  obtain ⟨g1, g2, g3, g4, g5⟩ := p7 hs2 hx
  have hwt := Ak8 s.Held q
  have hal9 : a.length ≤ 800000 := by (rw [hinv.2, I5]; omega)
  refine C1 (A3 (C3 (A3 (A2 ?_))))
  refine A1 rfl (I8 rfl F5 E8 (A0 rfl) (A0 rfl) hx (by first | omega | (simp only [D3, B0, szR] at *; omega))) ?_
  refine A1 rfl (H0 rfl (A0 rfl) K5 E8) ?_
  refine I2 rfl rfl rfl rfl Tryz.zeroValue141 rfl ?_
  intro b10
  refine G9 0 rfl rfl rfl (A0 rfl) (A0 rfl) (I7 _) rfl E8 rfl ?_
  refine A4 (A2 ?_)
  refine A5 rfl ?_
  refine A1 rfl (B5 4 rfl E1 rfl J6 (A0 rfl) rfl) ?_
  refine A1 rfl (B2 0 rfl (A0 rfl) rfl K6 rfl) ?_
  refine U6 (by' := 40) 1 rfl rfl rfl rfl F0 Tryz.type101 rfl rfl rfl rfl rfl rfl (A0 rfl) (A0 rfl) rfl (by simp only [I5, A6]; omega) ?_
  intro v39_2
  refine B1 rfl ?_
  refine A4 (A2 ?_)
  refine A1 rfl (E9 rfl (A0 rfl) B4 (by first | omega | (simp only [D3, B0, szR] at *; omega))) ?_
  refine A5 rfl ?_
  refine A4 ?_
  refine Y0 q u a (q + 1) (v39_2) (a ++ h.Writes) ?_ ?_ (Le.trans (P2 [0, 0] rfl) (S8 1 (by (rw [List.map_append]; rfl)) ⟨rfl, rfl, rfl, rfl, rfl, rfl, rfl, trivial⟩))
  ·exact ⟨by omega, by rw [hinv.2, Af7 hx, List.append_assoc]⟩
  omega
 intro h33
 have k33 := of_decide_eq_false h33; try simp only [A6] at k33
 have hge : s.Held.length ≤ q := by omega
 have ha9 : a = al := by (rw [hinv.2, List.take_of_length_le hge, hal])
 subst ha9
 refine F1 ?_
 refine A3 (A3 (A2 ?_))
 refine A5 rfl ?_
 refine A1 rfl (V3 0 rfl F0 (A0 rfl) rfl) ?_
 refine A1 rfl (C4 rfl B4) ?_
 refine A4 (C3 ?_)
 refine AWP.le (P2 [1] rfl) ?_
 refine Y3 [(2, _), (41, _), (42, _)] _ (fun (r : Nat) (v2 : Value) (ks : List Str) => r ≤ a.length ∧ a.all p = (a.drop r).all p ∧ ks = putAllS (cKeys s.Cells ++ wKeys (a.take r)) []) (fun (r : Nat) (v2 : Value) (ks : List Str) => [.arr v2 9 1 (ks.map fun s => [AV.str s])]) (fun (r : Nat) (v2 : Value) (ks : List Str) => [(5, AV.is v2), (43, AV.int r)]) (fun (r : Nat) (v2 : Value) (ks : List Str) => a.length - r) (0) (v) (putAllS (cKeys s.Cells) []) ?_ (J9 (by rfl) ⟨rfl, rfl, rfl, rfl, rfl, trivial⟩) ?_
 ·exact ⟨Nat.zero_le _, rfl, by rw [List.take_zero]; exact congrArg (fun z => putAllS z []) (List.append_nil _).symm⟩
 intro r v2 ks hinv
 refine A3 (A2 ?_)
 refine A1 rfl (F7 rfl (A0 rfl) (A0 rfl)) ?_
 refine A4 (A3 ?_)
 refine C0 (A0 rfl) ?_ ?_
 ·intro h44
  have k44 := of_decide_eq_true h44; try simp only [A6] at k44
  have hlt : r < a.length := by omega
  obtain ⟨w, hx⟩ := get_some hlt
  obtain ⟨c, hc0⟩ := at_some s.Cells w.Key
  have hfu := fullC_at (l := s.Cells) (k := w.Key) (c := c) (fun h9 => (hc0 h9).2)
  have hpl := AA2 (cKeys s.Cells ++ wKeys (a.take r)) []
  unfold cKeys wKeys at hpl
  simp only [I5, A6, F8, X1] at hpl
  refine C1 (A3 (C3 (A3 (A2 ?_))))
  refine A1 rfl (K9 1 rfl F0 G5 (A0 rfl) rfl (A0 rfl) (by omega) (by try simp only [A6]; omega)) ?_
  refine A1 rfl (AI2 1 rfl (A0 rfl) rfl Q4 G5 (by rw [Int.toNat_natCast, List.getElem?_map, hx]; rfl) (by decide)) ?_
  refine I2 rfl rfl rfl rfl Tryz.zeroValue101 rfl ?_
  intro b12
  refine G9 0 rfl rfl rfl (A0 rfl) (A0 rfl) (I7 _) rfl G5 rfl ?_
  refine A4 (A3 (A2 ?_))
  refine A5 rfl ?_
  refine A1 rfl (B5 0 rfl G7 rfl D2 (A0 rfl) rfl) ?_
  refine A1 rfl (B2 0 rfl (A0 rfl) rfl E6 rfl) ?_
  refine S9 [1] rfl rfl rfl rfl Tryz.call169 rfl (AP8 v2 ks w.Key (by rw [hinv.2.2]; exact (o5 List.Pairwise.nil).1) (by rw [hinv.2.2]; unfold cKeys wKeys; omega)) (A8 (A0 rfl) (A8 (A0 rfl) C8)) rfl ?_
  intro x50 ok50
  refine B1 rfl ?_
  refine A4 (A3 (A2 ?_))
  refine A1 rfl (B5 1 rfl E3 rfl L6 (A0 rfl) rfl) ?_
  refine A1 rfl (B2 3 rfl (A0 rfl) rfl O3 rfl) ?_
  refine A1 rfl (B5 0 rfl G7 rfl D2 (A0 rfl) rfl) ?_
  refine A1 rfl (B2 1 rfl (A0 rfl) rfl E6 rfl) ?_
  refine A1 rfl (D8 rfl Tryz.call180 rfl (AW7 _ _) (A8 (A0 rfl) (A8 (A0 rfl) C8))) ?_
  refine B1 rfl ?_
  refine A4 (A3 (A2 ?_))
  refine A5 rfl ?_
  refine A1 rfl (X3 rfl (A0 rfl) B4) ?_
  refine A5 rfl ?_
  refine D4 rfl (fun hc => B5 1 rfl E3 rfl L6 (A0 rfl) rfl) ?_
  refine D4 rfl (fun hc => B2 3 rfl (A9 rfl hc) rfl O3 rfl) ?_
  refine D4 rfl (fun hc => C4 rfl (A0 rfl)) ?_
  refine D4 rfl (fun hc => N5 rfl F3 F2 (A9 rfl hc) (A9 rfl hc) (by have h9 := of_decide_eq_true hc; obtain ⟨⟨p9, e1, e2⟩, _⟩ := hc0 (by omega); have := (List.getElem?_eq_some_iff.1 e2).1; omega) (by have h9 := of_decide_eq_true hc; obtain ⟨⟨p9, e1, e2⟩, _⟩ := hc0 (by omega); rw [e1, Int.toNat_natCast, List.getElem?_map, e2]; rfl)) ?_
  refine D4 rfl (fun hc => Q8 rfl F9 rfl L2 (A9 rfl hc) rfl) ?_
  refine D4 rfl (fun hc => K1 rfl (A9 rfl hc) O1 rfl) ?_
  refine D4 rfl (fun hc => E7 rfl H4 (A9 rfl hc)) ?_
  refine D4 rfl (fun hc => X3 rfl (A9 rfl hc) B4) ?_
  refine A1 rfl (I1 rfl (A0 rfl) (F6 rfl)) ?_
  refine A4 ?_
  refine C0 (A0 rfl) ?_ ?_
  ·intro h67
   have hpw : p w = false := by (rw [hp]; simp only [Bool.not_eq_false']; rw [hfu]; rw [A6] at h67; exact h67)
   have hro : room s.Cells a = false := by (unfold room; rw [show (a.all fun w => !fullC s.Cells w.Key) = false from by rw [← hp, hinv.2.1, drop_some hx, List.all_cons, hpw]; rfl]; rfl)
   refine A3 (A2 ?_)
   refine A1 rfl (A7 rfl E2) ?_
   refine A4 ?_
   refine B8 ?_
   exact E4 rfl (B7 rfl (by first | exact congrArg AV.bool hro.symm | exact congrArg AV.bool (by rw [hro]; simp only [A6]; rw [decide_eq_decide]; omega)))
  intro h67
  have hpw : p w = true := by (rw [hp]; simp only [Bool.not_eq_true']; rw [hfu]; rw [A6] at h67; exact h67)
  refine C1 (A2 ?_)
  refine A1 rfl (E9 rfl (A0 rfl) B4 (by first | omega | (simp only [D3, B0, szR] at *; omega))) ?_
  refine A5 rfl ?_
  refine A4 ?_
  refine Y0 r v2 ks (r + 1) (x50) (putS ks w.Key) ?_ ?_ (Le.trans (P2 [1, 0] rfl) (S8 1 (by rfl) ⟨rfl, rfl, rfl, rfl, rfl, trivial⟩))
  ·exact ⟨by omega, by rw [hinv.2.1, drop_some hx, List.all_cons, hpw]; rfl, by rw [hinv.2.2]; unfold wKeys; rw [List.take_add_one, hx, List.map_append, ← List.append_assoc]; exact (AG5 _ _ _).symm⟩
  omega
 intro h44
 have k44 := of_decide_eq_false h44; try simp only [A6] at k44
 have hge : a.length ≤ r := by omega
 have hks := hinv.2.2
 rw [List.take_of_length_le hge] at hks
 have hro : room s.Cells a = decide (ks.length ≤ 24) := by (unfold room roomKs; rw [← hp, hinv.2.1, List.drop_eq_nil_of_le hge, Av4, ← hks]; rfl)
 refine F1 ?_
 refine A3 (A2 ?_)
 refine A5 rfl ?_
 refine A1 rfl (V3 0 rfl D6 (A0 rfl) rfl) ?_
 refine A1 rfl (S3 rfl (A0 rfl) B4) ?_
 refine B1 rfl ?_
 refine A4 ?_
 refine B8 ?_
 exact E4 rfl (B7 rfl (by first | exact congrArg AV.bool hro.symm | exact congrArg AV.bool (by rw [hro]; simp only [A6]; rw [decide_eq_decide]; omega)))
theorem AX0 : ∀ {l : List THeld}, (∀ h ∈ l, goodRec (hRec h) = true) → (hWs l).length ≤ 400 * l.length
  | [], _ => Nat.le_refl _
  | h :: l, hg => by
    have ih := AX0 fun k hk => hg k (List.mem_cons_of_mem h hk)
    have h1 := AZ8 (hg h List.mem_cons_self)
    have h4 := L4 (f := TWrite.size) (l := h.Writes)
    have h2 : (hRec h).size = sizeL (fun x => x.length) h.Reads + sizeL TWrite.size h.Writes := rfl
    rw [u5, I5, K0]; omega
theorem Ar7 {s : TState} (h : allB s.Held.length (heldAt s) = true) : ∀ k ∈ s.Held, goodRec (hRec k) = true := fun k hk => by
  obtain ⟨i, hi⟩ := List.getElem?_of_mem hk
  have h9 := e8.1 h i (List.getElem?_eq_some_iff.1 hi).1
  unfold heldAt at h9
  rw [hi] at h9
  simp only [Bool.and_eq_true] at h9
  exact h9.1.1.1.1
theorem Ag4 (s : TState) (n : Int) (hlen : s.Held.length ≤ 1048576) : FSpec Tryz.prog 128 [AV.agg s.cs, AV.int n] (AV.tup [AV.agg (heldFO s.Held n).1.cs, AV.bool (heldFO s.Held n).2]) := by
 obtain ⟨l, hl⟩ : ∃ l, s.Held = l := ⟨_, rfl⟩
 have hcs : s.cs = [AV.int s.Floor, AV.list 2 (s.Cells.map TCell.cs), AV.list 5 (l.map THeld.cs), AV.list 3 (s.Told.map TTold.cs)] := by rw [← hl]; rfl
 rw [hl] at hlen
 rw [hl, hcs]
 refine D0 Tryz.func128 rfl Tryz.ntmps128 rfl ?_
 refine A3 (A2 ?_)
 refine I6 rfl rfl rfl rfl (A0 rfl) ?_
 intro b2
 refine I2 rfl rfl rfl rfl Tryz.zeroValue141 rfl ?_
 intro b4
 refine A1 rfl (A7 rfl E2) ?_
 refine A4 (A3 (A3 (A2 ?_)))
 refine A1 rfl (B5 2 rfl E3 rfl M9 (A0 rfl) rfl) ?_
 refine A1 rfl (B2 1 rfl (A0 rfl) rfl P9 rfl) ?_
 refine A1 rfl (E7 rfl F5 (A0 rfl)) ?_
 refine A1 rfl (C4 rfl B4) ?_
 refine A4 (C3 ?_)
 refine G4 [(1, _), (4, _), (9, _), (10, _)] _ (fun (i : Nat) => i ≤ l.length ∧ ∀ j y, j < i → l[j]? = some y → (y.Txn == n) = false) (fun (i : Nat) => []) (fun (i : Nat) => [(11, AV.int i)]) (fun (i : Nat) => l.length - i) (0) ?_ (G6 ⟨rfl, rfl, rfl, rfl, rfl, trivial⟩) ?_
 ·exact ⟨Nat.zero_le _, fun j y hj => by omega⟩
 intro i hinv
 refine A3 (A2 ?_)
 refine A1 rfl (F7 rfl (A0 rfl) (A0 rfl)) ?_
 refine A4 (A3 ?_)
 refine C0 (A0 rfl) ?_ ?_
 ·intro h12
  have k12 := of_decide_eq_true h12; try simp only [A6] at k12
  have hlt : i < l.length := by omega
  obtain ⟨x, hx⟩ := get_some hlt
  refine C1 (A3 (C3 (A3 (A2 ?_))))
  refine A1 rfl (I8 rfl F5 E8 (A0 rfl) (A0 rfl) hx (by first | omega | (simp only [D3, B0, szR] at *; omega))) ?_
  refine A1 rfl (H0 rfl (A0 rfl) K5 E8) ?_
  refine I2 rfl rfl rfl rfl Tryz.zeroValue141 rfl ?_
  intro b7
  refine G9 0 rfl rfl rfl (A0 rfl) (A0 rfl) (I7 _) rfl E8 rfl ?_
  refine A4 (A3 (A2 ?_))
  refine A1 rfl (B5 0 rfl E1 rfl B9 (A0 rfl) rfl) ?_
  refine A1 rfl (B2 0 rfl (A0 rfl) rfl D1 rfl) ?_
  refine A5 rfl ?_
  refine A1 rfl (R4 rfl (A0 rfl) (A0 rfl)) ?_
  refine A4 ?_
  refine C0 (A0 rfl) ?_ ?_
  ·intro h18
   have k18 := U2 h18; try simp only [A6] at k18
   have he : heldFO l n = (x, true) := by (unfold heldFO findH; rw [AP9 hx h18 hinv.2])
   rw [he]
   refine A3 (A2 ?_)
   refine A1 rfl (L5 0 rfl (A0 rfl) rfl K5 E8 rfl) ?_
   refine G9 1 rfl rfl rfl (A0 rfl) (A0 rfl) (I7 _) rfl E8 rfl ?_
   refine A1 rfl (A7 rfl E2) ?_
   refine A4 ?_
   refine B8 ?_
   exact g9 rfl (by decide) (J2 (S6 (ys := _) 1 rfl rfl K5 E8 rfl) (J2 (B7 rfl (by rfl)) R6))
  intro h18
  have k18 := U1 h18; try simp only [A6] at k18
  refine C1 (A2 ?_)
  refine A1 rfl (E9 rfl (A0 rfl) B4 (by first | omega | (simp only [D3, B0, szR] at *; omega))) ?_
  refine A5 rfl ?_
  refine A4 ?_
  refine H6 i (i + 1) ?_ ?_ (T3 1 ⟨rfl, rfl, rfl, rfl, rfl, trivial⟩)
  ·exact ⟨by omega, fun j y hj hy => if hji : j < i then hinv.2 j y hji hy else (by have e : j = i := (by omega); subst e; rw [hx] at hy; injection hy with hy; subst hy; exact h18)⟩
  omega
 intro h12
 have k12 := of_decide_eq_false h12; try simp only [A6] at k12
 have hge : l.length ≤ i := by omega
 have he : heldFO l n = (zHeld, false) := by (unfold heldFO findH; rw [find_not fun j y hy => hinv.2 j y (Nat.lt_of_lt_of_le (List.getElem?_eq_some_iff.1 hy).1 hge) hy])
 rw [he]
 refine F1 ?_
 refine A3 (A2 ?_)
 refine A1 rfl (Z0 (places := #[(0, 1), (1, 1), (2, 1), (3, 1), (4, 1)]) rfl E1 Tryz.zeroValue141 (fun w => by kernel_rfl) rfl S7 rfl) ?_
 refine G9 0 rfl rfl rfl (A0 rfl) (A0 rfl) (I7 _) rfl E8 rfl ?_
 refine A1 rfl (A7 rfl E2) ?_
 refine A4 ?_
 refine B8 ?_
 refine AK3 0 3 1 rfl rfl ?_
 refine AK3 0 4 3 rfl rfl ?_
 exact g9 rfl (by decide) (J2 (S6 (ys := _) 0 rfl rfl K5 E8 rfl) (J2 (B7 rfl (by rfl)) R6))
theorem Aa0 (s : TState) (ho : CellsOk s.Cells) (hcl : s.Cells.length ≤ 400000) (hs : s.size ≤ 1048576) : FSpec Tryz.prog 126 [AV.agg s.cs] (AV.bool (areHeld s)) := by
 obtain ⟨hs1, hs2, hs3, hs4, hs5⟩ := c7 hs
 refine D0 Tryz.func126 rfl Tryz.ntmps126 rfl ?_
 refine A3 (A2 ?_)
 refine I6 rfl rfl rfl rfl (A0 rfl) ?_
 intro b1
 refine A1 rfl (A7 rfl E2) ?_
 refine A4 (A3 (A3 (A2 ?_)))
 refine A1 rfl (B5 2 rfl E3 rfl M9 (A0 rfl) rfl) ?_
 refine A1 rfl (B2 0 rfl (A0 rfl) rfl P9 rfl) ?_
 refine A1 rfl (E7 rfl F5 (A0 rfl)) ?_
 refine A1 rfl (C4 rfl B4) ?_
 refine A4 (C3 ?_)
 refine G4 [(1, _), (10, _), (11, _)] _ (fun (i : Nat) => i ≤ s.Held.length ∧ ∀ j, j < i → heldAt s j = true) (fun (i : Nat) => []) (fun (i : Nat) => [(12, AV.int i)]) (fun (i : Nat) => s.Held.length - i) (0) ?_ (G6 ⟨rfl, rfl, rfl, rfl, trivial⟩) ?_
 ·exact ⟨Nat.zero_le _, fun j hj => by omega⟩
 intro i hinv
 refine A3 (A2 ?_)
 refine A1 rfl (F7 rfl (A0 rfl) (A0 rfl)) ?_
 refine A4 (A3 ?_)
 refine C0 (A0 rfl) ?_ ?_
 ·intro h13
  have k13 := of_decide_eq_true h13; try simp only [A6] at k13
  have hlt : i < s.Held.length := by omega
  obtain ⟨h, hx⟩ := get_some hlt
  obtain ⟨y, hy⟩ := get_some (show i - 1 < s.Held.length by omega)
  obtain ⟨g1, g2, g3, g4, g5⟩ := p7 hs2 hx
  have hinv0 := hinv
  refine C1 (A3 (C3 (A3 (A2 ?_))))
  refine A5 rfl ?_
  refine A1 rfl (I8 rfl F5 E8 (A0 rfl) (A0 rfl) hx (by first | omega | (simp only [D3, B0, szR] at *; omega))) ?_
  refine A1 rfl (H0 rfl (A0 rfl) K5 E8) ?_
  refine I2 rfl rfl rfl rfl Tryz.zeroValue141 rfl ?_
  intro b4
  refine B1 rfl ?_
  refine G9 0 rfl rfl rfl (A0 rfl) (A0 rfl) (I7 _) rfl E8 rfl ?_
  refine A4 (A3 (A3 ?_))
  refine H7 (by kernel_rfl) (by kernel_rfl) rfl ?_
  refine B3 rfl rfl (L5 0 rfl (A0 rfl) rfl K5 E8 rfl) ?_
  refine B3 rfl rfl (D8 rfl Tryz.call177 rfl (AZ9 _) (A8 (A0 rfl) C8)) ?_
  refine B3 rfl rfl (D8 rfl Tryz.call106 rfl (Ak6 _ (by first | assumption | omega)) (A8 (A0 rfl) C8)) ?_
  refine B3 rfl rfl (J3 rfl (A0 rfl)) ?_
  refine B3 rfl rfl (C4 rfl (A0 rfl)) ?_
  refine D7 rfl (G8 rfl rfl rfl) (fun hc => B5 1 rfl E1 rfl B9 (A0 rfl) rfl) ?_
  refine D7 rfl (G8 rfl rfl rfl) (fun hc => B2 0 rfl (A9 rfl hc) rfl D1 rfl) ?_
  refine D7 rfl (G8 rfl rfl rfl) (fun hc => B5 0 rfl E3 rfl B9 (A0 rfl) rfl) ?_
  refine D7 rfl (G8 rfl rfl rfl) (fun hc => B2 1 rfl (A9 rfl hc) rfl D1 rfl) ?_
  refine D7 rfl (G8 rfl rfl rfl) (fun hc => S4 rfl (A9 rfl hc) (A9 rfl hc)) ?_
  refine B3 rfl rfl (P4 rfl (A0 rfl) (F6 rfl)) ?_
  refine B3 rfl rfl (C4 rfl (A0 rfl)) ?_
  refine D7 rfl (G8 rfl rfl rfl) (fun hc => C4 rfl (A0 rfl)) ?_
  refine D7 rfl (G8 rfl rfl rfl) (fun hc => S4 rfl (A9 rfl hc) B4) ?_
  refine D7 rfl (G8 rfl rfl rfl) (fun hc => C4 rfl (A9 rfl hc)) ?_
  refine D7 rfl (D9 rfl rfl rfl) (fun hc => B5 2 rfl E3 rfl M9 (A0 rfl) rfl) ?_
  refine D7 rfl (D9 rfl rfl rfl) (fun hc => B2 1 rfl (A9 rfl hc) rfl P9 rfl) ?_
  refine D7 rfl (D9 rfl rfl rfl) (fun hc => C4 rfl (A0 rfl)) ?_
  refine D7 rfl (D9 rfl rfl rfl) (fun hc => O8 rfl (A9 rfl hc) B4 (by first | omega | ((try simp only [D3, B0, szR] at *); omega) | (have hc2 := hc; simp only [P3, beq_iff_eq, bne_iff_ne, A6, F8] at hc2; omega))) ?_
  refine D7 rfl (D9 rfl rfl rfl) (fun hc => I8 rfl F5 E8 (A9 rfl hc) (A9 rfl hc) hy (by first | omega | ((try simp only [D3, B0, szR] at *); omega) | (have hc2 := hc; simp only [P3, beq_iff_eq, bne_iff_ne, A6, F8] at hc2; omega))) ?_
  refine D7 rfl (D9 rfl rfl rfl) (fun hc => Q8 rfl E1 rfl B9 (A9 rfl hc) rfl) ?_
  refine D7 rfl (D9 rfl rfl rfl) (fun hc => K1 rfl (A9 rfl hc) D1 rfl) ?_
  refine D7 rfl (D9 rfl rfl rfl) (fun hc => B5 0 rfl E1 rfl B9 (A0 rfl) rfl) ?_
  refine D7 rfl (D9 rfl rfl rfl) (fun hc => B2 0 rfl (A9 rfl hc) rfl D1 rfl) ?_
  refine D7 rfl (D9 rfl rfl rfl) (fun hc => X3 rfl (A9 rfl hc) (A9 rfl hc)) ?_
  refine D7 rfl (G8 rfl rfl rfl) (fun hc => I1 rfl (A9 rfl hc) (O2 rfl hc)) ?_
  refine B3 rfl rfl (P4 rfl (A0 rfl) (F6 rfl)) ?_
  refine O4 ?_
  refine C0 (A0 rfl) ?_ ?_
  ·intro h43
   have hfin : areHeld s = false := by (unfold areHeld; rw [V1 hlt (by rw [s5 hx hy, h43]; rfl)]; rfl)
   refine A3 (A2 ?_)
   refine A1 rfl (A7 rfl E2) ?_
   refine A4 ?_
   refine B8 ?_
   exact E4 rfl (B7 rfl (by first | exact congrArg AV.bool hfin.symm | exact congrArg AV.bool (by unfold areHeld; rw [hall, Bool.true_and, List.nil_append, A6]; congr 1; rw [decide_eq_decide]; omega)))
  intro h43
  refine C1 (A3 (A3 (A2 ?_)))
  refine A1 rfl (B5 2 rfl E3 rfl M9 (A0 rfl) rfl) ?_
  refine A1 rfl (B2 1 rfl (A0 rfl) rfl P9 rfl) ?_
  refine A5 rfl ?_
  refine A1 rfl (AU6 rfl F5 E8 (A0 rfl) (A0 rfl) (by first | omega | (simp only [D3, B0, szR] at *; omega)) (by first | omega | (simp only [D3, B0, szR] at *; omega))) ?_
  refine A1 rfl (E7 rfl F5 (A0 rfl)) ?_
  refine A1 rfl (C4 rfl B4) ?_
  refine A4 (C3 ?_)
  refine G4 [(1, _), (3, _), (4, _), (10, _), (11, _), (12, _), (13, _), (14, _), (15, _), (16, _), (17, _), (18, _), (19, _), (20, _), (21, _), (27, _), (28, _), (43, _), (44, _), (45, _), (46, _), (47, _), (48, _)] _ (fun (q : Nat) => q ≤ (s.Held.take i).length ∧ ((s.Held.take i).all fun g => apart g h.Reads h.Writes) = (((s.Held.take i).drop q).all fun g => apart g h.Reads h.Writes)) (fun (q : Nat) => []) (fun (q : Nat) => [(49, AV.int q)]) (fun (q : Nat) => (s.Held.take i).length - q) (0) ?_ (G6 ⟨rfl, rfl, rfl, rfl, rfl, rfl, rfl, rfl, rfl, rfl, rfl, rfl, rfl, rfl, rfl, rfl, rfl, rfl, rfl, rfl, rfl, rfl, rfl, rfl, trivial⟩) ?_
  ·exact ⟨Nat.zero_le _, rfl⟩
  intro q hinv
  refine A3 (A2 ?_)
  refine A1 rfl (F7 rfl (A0 rfl) (A0 rfl)) ?_
  refine A4 (A3 ?_)
  refine C0 (A0 rfl) ?_ ?_
  ·intro h50
   have k50 := of_decide_eq_true h50; try simp only [A6] at k50
   have hlt2 : q < (s.Held.take i).length := by (simp only [F8, A6, Int.toNat_natCast] at k50 ⊢; omega)
   obtain ⟨k, hx2⟩ := get_some hlt2
   refine C1 (A3 (C3 (A3 (A2 ?_))))
   refine A1 rfl (I8 rfl F5 E8 (A0 rfl) (A0 rfl) hx2 (by first | omega | (simp only [D3, B0, szR] at *; omega))) ?_
   refine A1 rfl (H0 rfl (A0 rfl) K5 E8) ?_
   refine I2 rfl rfl rfl rfl Tryz.zeroValue141 rfl ?_
   intro b6
   refine G9 0 rfl rfl rfl (A0 rfl) (A0 rfl) (I7 _) rfl E8 rfl ?_
   refine A4 (A3 (A2 ?_))
   refine A1 rfl (L5 0 rfl (A0 rfl) rfl K5 E8 rfl) ?_
   refine A1 rfl (B5 3 rfl E1 rfl L0 (A0 rfl) rfl) ?_
   refine A1 rfl (B2 1 rfl (A0 rfl) rfl N4 rfl) ?_
   refine A1 rfl (B5 4 rfl E1 rfl J6 (A0 rfl) rfl) ?_
   refine A1 rfl (B2 1 rfl (A0 rfl) rfl K6 rfl) ?_
   refine A1 rfl (D8 rfl Tryz.call178 rfl (apart_spec _ _ _) (A8 (A0 rfl) (A8 (A0 rfl) (A8 (A0 rfl) C8)))) ?_
   refine A1 rfl (J3 rfl (A0 rfl)) ?_
   refine A4 ?_
   refine C0 (A0 rfl) ?_ ?_
   ·intro h59
    have hfin : areHeld s = false := by (unfold areHeld; rw [V1 hlt (by rw [s5 hx hy, hinv.2, drop_some hx2, List.all_cons, show apart k h.Reads h.Writes = false by simpa using h59]; simp)]; rfl)
    refine A3 (A2 ?_)
    refine A1 rfl (A7 rfl E2) ?_
    refine A4 ?_
    refine B8 ?_
    exact E4 rfl (B7 rfl (by first | exact congrArg AV.bool hfin.symm | exact congrArg AV.bool (by unfold areHeld; rw [hall, Bool.true_and, List.nil_append, A6]; congr 1; rw [decide_eq_decide]; omega)))
   intro h59
   refine C1 (A2 ?_)
   refine A1 rfl (E9 rfl (A0 rfl) B4 (by first | omega | (simp only [D3, B0, szR] at *; omega))) ?_
   refine A5 rfl ?_
   refine A4 ?_
   refine H6 q (q + 1) ?_ ?_ (T3 1 ⟨rfl, rfl, rfl, rfl, rfl, rfl, rfl, rfl, rfl, rfl, rfl, rfl, rfl, rfl, rfl, rfl, rfl, rfl, rfl, rfl, rfl, rfl, rfl, rfl, trivial⟩)
   ·exact ⟨by omega, by rw [hinv.2, drop_some hx2, List.all_cons, show apart k h.Reads h.Writes = true by simpa using h59]; rfl⟩
   omega
  intro h50
  have k50 := of_decide_eq_false h50; try simp only [A6] at k50
  have hge2 : (s.Held.take i).length ≤ q := by (simp only [F8, A6, Int.toNat_natCast] at k50 ⊢; omega)
  have hap : ((s.Held.take i).all fun g => apart g h.Reads h.Writes) = true := by (rw [hinv.2, List.drop_eq_nil_of_le hge2]; rfl)
  refine F1 ?_
  refine A3 (A2 ?_)
  refine A1 rfl (B5 4 rfl E1 rfl J6 (A0 rfl) rfl) ?_
  refine A1 rfl (B2 0 rfl (A0 rfl) rfl K6 rfl) ?_
  refine A1 rfl (E7 rfl F0 (A0 rfl)) ?_
  refine A1 rfl (C4 rfl B4) ?_
  refine A4 (C3 ?_)
  refine G4 [(1, _), (3, _), (4, _), (10, _), (11, _), (12, _), (13, _), (14, _), (15, _), (16, _), (17, _), (18, _), (19, _), (20, _), (21, _), (27, _), (28, _), (43, _), (44, _), (45, _), (46, _), (47, _), (48, _), (49, _), (50, _), (61, _), (62, _), (63, _)] _ (fun (r : Nat) => r ≤ h.Writes.length ∧ (h.Writes.all fun w => decide (lastTime s.Cells w.Key < h.Time)) = ((h.Writes.drop r).all fun w => decide (lastTime s.Cells w.Key < h.Time))) (fun (r : Nat) => []) (fun (r : Nat) => [(64, AV.int r)]) (fun (r : Nat) => h.Writes.length - r) (0) ?_ (G6 ⟨rfl, rfl, rfl, rfl, rfl, rfl, rfl, rfl, rfl, rfl, rfl, rfl, rfl, rfl, rfl, rfl, rfl, rfl, rfl, rfl, rfl, rfl, rfl, rfl, rfl, rfl, rfl, rfl, rfl, trivial⟩) ?_
  ·exact ⟨Nat.zero_le _, rfl⟩
  intro r hinv
  refine A3 (A2 ?_)
  refine A1 rfl (F7 rfl (A0 rfl) (A0 rfl)) ?_
  refine A4 (A3 ?_)
  refine C0 (A0 rfl) ?_ ?_
  ·intro h65
   have k65 := of_decide_eq_true h65; try simp only [A6] at k65
   have hlt3 : r < h.Writes.length := by omega
   obtain ⟨w, hw⟩ := get_some hlt3
   refine C1 (A3 (C3 (A3 (A2 ?_))))
   refine A1 rfl (I8 rfl F0 G5 (A0 rfl) (A0 rfl) hw (by first | omega | (simp only [D3, B0, szR] at *; omega))) ?_
   refine A1 rfl (H0 rfl (A0 rfl) Q4 G5) ?_
   refine I2 rfl rfl rfl rfl Tryz.zeroValue101 rfl ?_
   intro b8
   refine G9 0 rfl rfl rfl (A0 rfl) (A0 rfl) (I7 _) rfl G5 rfl ?_
   refine A4 (A3 ?_)
   refine H7 (by kernel_rfl) (by kernel_rfl) rfl ?_
   refine B3 rfl rfl (B5 1 rfl E3 rfl L6 (A0 rfl) rfl) ?_
   refine B3 rfl rfl (B2 2 rfl (A0 rfl) rfl O3 rfl) ?_
   refine B3 rfl rfl (B5 0 rfl G7 rfl D2 (A0 rfl) rfl) ?_
   refine B3 rfl rfl (B2 0 rfl (A0 rfl) rfl E6 rfl) ?_
   refine B3 rfl rfl (D8 rfl Tryz.call127 rfl (AJ8 _ _ (by first | assumption | exact V9 (by rw [V8]; assumption)) (by first | assumption | omega)) (A8 (A0 rfl) (A8 (A0 rfl) C8))) ?_
   refine B3 rfl rfl (B5 1 rfl E1 rfl B9 (A0 rfl) rfl) ?_
   refine B3 rfl rfl (B2 1 rfl (A0 rfl) rfl D1 rfl) ?_
   refine B3 rfl rfl (X3 rfl (A0 rfl) (A0 rfl)) ?_
   refine O4 ?_
   refine C0 (A0 rfl) ?_ ?_
   ·intro h75
    have k75 := of_decide_eq_true h75; try simp only [A6] at k75
    have hfin : areHeld s = false := by (unfold areHeld; rw [V1 hlt (by rw [s5 hx hy, hinv.2, drop_some hw, List.all_cons, decide_eq_false (show ¬ lastTime s.Cells w.Key < h.Time by omega)]; simp)]; rfl)
    refine A3 (A2 ?_)
    refine A1 rfl (A7 rfl E2) ?_
    refine A4 ?_
    refine B8 ?_
    exact E4 rfl (B7 rfl (by first | exact congrArg AV.bool hfin.symm | exact congrArg AV.bool (by unfold areHeld; rw [hall, Bool.true_and, List.nil_append, A6]; congr 1; rw [decide_eq_decide]; omega)))
   intro h75
   have k75 := of_decide_eq_false h75; try simp only [A6] at k75
   refine C1 (A2 ?_)
   refine A1 rfl (E9 rfl (A0 rfl) B4 (by first | omega | (simp only [D3, B0, szR] at *; omega))) ?_
   refine A5 rfl ?_
   refine A4 ?_
   refine H6 r (r + 1) ?_ ?_ (T3 1 ⟨rfl, rfl, rfl, rfl, rfl, rfl, rfl, rfl, rfl, rfl, rfl, rfl, rfl, rfl, rfl, rfl, rfl, rfl, rfl, rfl, rfl, rfl, rfl, rfl, rfl, rfl, rfl, rfl, rfl, trivial⟩)
   ·exact ⟨by omega, by rw [hinv.2, drop_some hw, List.all_cons, decide_eq_true (show lastTime s.Cells w.Key < h.Time by omega)]; rfl⟩
   omega
  intro h65
  have k65 := of_decide_eq_false h65; try simp only [A6] at k65
  have hge3 : h.Writes.length ≤ r := by omega
  have hlw : (h.Writes.all fun w => decide (lastTime s.Cells w.Key < h.Time)) = true := by (rw [hinv.2, List.drop_eq_nil_of_le hge3]; rfl)
  refine F1 ?_
  refine A2 ?_
  refine A1 rfl (E9 rfl (A0 rfl) B4 (by first | omega | (simp only [D3, B0, szR] at *; omega))) ?_
  refine A5 rfl ?_
  refine A4 ?_
  refine H6 i (i + 1) ?_ ?_ (T3 1 ⟨rfl, rfl, rfl, rfl, trivial⟩)
  ·exact ⟨by omega, fun j hj => if hji : j < i then hinv0.2 j hji else (by have e : j = i := (by omega); subst e; rw [s5 hx hy, h43, hap, hlw]; rfl)⟩
  omega
 intro h13
 have k13 := of_decide_eq_false h13; try simp only [A6] at k13
 have hge : s.Held.length ≤ i := by omega
 have hall : allB s.Held.length (heldAt s) = true := e8.2 fun j hj => hinv.2 j (by omega)
 refine F1 ?_
 refine A3 (A2 ?_)
 refine A1 rfl (B5 2 rfl E3 rfl M9 (A0 rfl) rfl) ?_
 refine A1 rfl (B2 0 rfl (A0 rfl) rfl P9 rfl) ?_
 refine A1 rfl (E7 rfl F5 (A0 rfl)) ?_
 refine A1 rfl (S3 rfl (A0 rfl) B4) ?_
 refine A5 rfl ?_
 refine D4 rfl (fun hc => L5 0 rfl (A0 rfl) rfl N3 I0 rfl) ?_
 refine D4 rfl (fun hc => D8 rfl Tryz.call179 rfl (Ar6 s [] hs (by (have h9 := AX0 (Ar7 hall); have h8 := of_decide_eq_true hc; simp only [A6] at h8; simp only [X1]; omega))) (A8 (A9 rfl hc) (A8 c0 C8))) ?_
 refine A1 rfl (I1 rfl (A0 rfl) (F6 rfl)) ?_
 refine B1 rfl ?_
 refine A4 ?_
 refine B8 ?_
 exact E4 rfl (B7 rfl (by first | exact congrArg AV.bool hfin.symm | exact congrArg AV.bool (by unfold areHeld; rw [hall, Bool.true_and, List.nil_append, A6]; congr 1; rw [decide_eq_decide]; omega)))
theorem AQ1 (s : TState) (hs : s.size ≤ 1048576) : FSpec Tryz.prog 80 [AV.agg s.cs] (AV.bool (goodState s)) := by
 obtain ⟨hs1, hs2, hs3, hs4, hs5⟩ := c7 hs
 refine D0 Tryz.func80 rfl Tryz.ntmps80 rfl ?_
 refine A3 (A2 ?_)
 refine I6 rfl rfl rfl rfl (A0 rfl) ?_
 intro b1
 refine A1 rfl (A7 rfl E2) ?_
 refine A4 (A3 (A3 (A2 ?_)))
 refine A1 rfl (B5 0 rfl E3 rfl B9 (A0 rfl) rfl) ?_
 refine A1 rfl (B2 0 rfl (A0 rfl) rfl D1 rfl) ?_
 refine A1 rfl (D8 rfl Tryz.call124 rfl (Aj1 _) (A8 (A0 rfl) C8)) ?_
 refine A1 rfl (J3 rfl (A0 rfl)) ?_
 refine A5 rfl ?_
 refine I3 rfl (fun hc => B5 1 rfl E3 rfl L6 (A0 rfl) rfl) ?_
 refine I3 rfl (fun hc => B2 0 rfl (A9 rfl hc) rfl O3 rfl) ?_
 refine I3 rfl (fun hc => D8 rfl Tryz.call125 rfl (Aj4 _ (by first | assumption | omega)) (A8 (A9 rfl hc) C8)) ?_
 refine I3 rfl (fun hc => J3 rfl (A9 rfl hc)) ?_
 refine A1 rfl (P4 rfl (A0 rfl) (F6 rfl)) ?_
 refine A5 rfl ?_
 refine I3 rfl (fun hc => L5 0 rfl (A0 rfl) rfl N3 I0 rfl) ?_
 refine I3 rfl (fun hc => D8 rfl Tryz.call126 rfl (Aa0 s (V9 (by have h9 := hc; simp at h9; rw [V8]; exact h9.2)) (by have h9 := hc; simp at h9; have h8 := (Q3 (by rw [V8]; exact h9.2)).1; omega) hs) (A8 (A9 rfl hc) C8)) ?_
 refine I3 rfl (fun hc => J3 rfl (A9 rfl hc)) ?_
 refine A1 rfl (P4 rfl (A0 rfl) (F6 rfl)) ?_
 refine A5 rfl ?_
 refine I3 rfl (fun hc => B5 3 rfl E3 rfl Q9 (A0 rfl) rfl) ?_
 refine I3 rfl (fun hc => B2 0 rfl (A9 rfl hc) rfl V2 rfl) ?_
 refine I3 rfl (fun hc => E7 rfl J8 (A9 rfl hc)) ?_
 refine I3 rfl (fun hc => S4 rfl (A9 rfl hc) B4) ?_
 refine A1 rfl (P4 rfl (A0 rfl) (F6 rfl)) ?_
 refine A4 ?_
 refine C0 (A0 rfl) ?_ ?_
 ·intro h29
  have hfin : goodState s = false := by (unfold goodState; simp only [Bool.or_eq_true, Bool.not_eq_true', decide_eq_true_eq, A6] at h29; rcases h29 with ((h | h) | h) | h; (rw [h]; rfl); (rw [V8, h]; simp); (rw [h]; simp); (rw [decide_eq_false (show ¬ s.Told.length ≤ 60 by omega)]; simp))
  refine A3 (A2 ?_)
  refine A1 rfl (A7 rfl E2) ?_
  refine A4 ?_
  refine B8 ?_
  exact E4 rfl (B7 rfl (by exact congrArg AV.bool hfin.symm))
 intro h29
 simp only [Bool.or_eq_false_iff, Bool.not_eq_false', decide_eq_false_iff_not, A6] at h29
 obtain ⟨⟨⟨q1, q2⟩, q3⟩, q4⟩ := h29
 have hco := V9 (by rw [V8]; exact q2)
 have hgs : goodState s = ((s.Cells.all fun c => decide (lastTime s.Cells c.Key ≤ s.Floor)) && allB s.Told.length (toldAt s)) := by (unfold goodState; rw [q1, V8, q2, q3, decide_eq_true (show s.Told.length ≤ 60 by omega)]; simp)
 refine C1 (A3 (A3 (A2 ?_)))
 refine A1 rfl (B5 1 rfl E3 rfl L6 (A0 rfl) rfl) ?_
 refine A1 rfl (B2 0 rfl (A0 rfl) rfl O3 rfl) ?_
 refine A1 rfl (E7 rfl F3 (A0 rfl)) ?_
 refine A1 rfl (C4 rfl B4) ?_
 refine A4 (C3 ?_)
 refine G4 [(1, _), (31, _), (32, _)] _ (fun (i : Nat) => i ≤ s.Cells.length ∧ (s.Cells.all fun c => decide (lastTime s.Cells c.Key ≤ s.Floor)) = ((s.Cells.drop i).all fun c => decide (lastTime s.Cells c.Key ≤ s.Floor))) (fun (i : Nat) => []) (fun (i : Nat) => [(33, AV.int i)]) (fun (i : Nat) => s.Cells.length - i) (0) ?_ (G6 ⟨rfl, rfl, rfl, rfl, trivial⟩) ?_
 ·exact ⟨Nat.zero_le _, rfl⟩
 intro i hinv
 refine A3 (A2 ?_)
 refine A1 rfl (F7 rfl (A0 rfl) (A0 rfl)) ?_
 refine A4 (A3 ?_)
 refine C0 (A0 rfl) ?_ ?_
 ·intro h34
  have k34 := of_decide_eq_true h34; try simp only [A6] at k34
  have hlt : i < s.Cells.length := by omega
  obtain ⟨c, hx⟩ := get_some hlt
  refine C1 (A3 (C3 (A3 (A2 ?_))))
  refine A1 rfl (I8 rfl F3 F2 (A0 rfl) (A0 rfl) hx (by first | omega | (simp only [D3, B0, szR] at *; omega))) ?_
  refine A1 rfl (H0 rfl (A0 rfl) O0 F2) ?_
  refine I2 rfl rfl rfl rfl Tryz.zeroValue125 rfl ?_
  intro b4
  refine G9 0 rfl rfl rfl (A0 rfl) (A0 rfl) (I7 _) rfl F2 rfl ?_
  refine A4 (A3 ?_)
  refine H7 (by kernel_rfl) (by kernel_rfl) rfl ?_
  refine B3 rfl rfl (B5 1 rfl E3 rfl L6 (A0 rfl) rfl) ?_
  refine B3 rfl rfl (B2 1 rfl (A0 rfl) rfl O3 rfl) ?_
  refine B3 rfl rfl (B5 0 rfl F9 rfl D2 (A0 rfl) rfl) ?_
  refine B3 rfl rfl (B2 0 rfl (A0 rfl) rfl E6 rfl) ?_
  refine B3 rfl rfl (D8 rfl Tryz.call127 rfl (AJ8 _ _ (by first | assumption | exact V9 (by rw [V8]; assumption)) (by first | assumption | omega)) (A8 (A0 rfl) (A8 (A0 rfl) C8))) ?_
  refine B3 rfl rfl (B5 0 rfl E3 rfl B9 (A0 rfl) rfl) ?_
  refine B3 rfl rfl (B2 1 rfl (A0 rfl) rfl D1 rfl) ?_
  refine B3 rfl rfl (S4 rfl (A0 rfl) (A0 rfl)) ?_
  refine O4 ?_
  refine C0 (A0 rfl) ?_ ?_
  ·intro h44
   have k44 := of_decide_eq_true h44; try simp only [A6] at k44
   have hfin : goodState s = false := by (rw [hgs, hinv.2, drop_some hx, List.all_cons, decide_eq_false (show ¬ lastTime s.Cells c.Key ≤ s.Floor by omega)]; rfl)
   refine A3 (A2 ?_)
   refine A1 rfl (A7 rfl E2) ?_
   refine A4 ?_
   refine B8 ?_
   exact E4 rfl (B7 rfl (by exact congrArg AV.bool hfin.symm))
  intro h44
  have k44 := of_decide_eq_false h44; try simp only [A6] at k44
  refine C1 (A2 ?_)
  refine A1 rfl (E9 rfl (A0 rfl) B4 (by first | omega | (simp only [D3, B0, szR] at *; omega))) ?_
  refine A5 rfl ?_
  refine A4 ?_
  refine H6 i (i + 1) ?_ ?_ (T3 1 ⟨rfl, rfl, rfl, rfl, trivial⟩)
  ·exact ⟨by omega, by rw [hinv.2, drop_some hx, List.all_cons, decide_eq_true (show lastTime s.Cells c.Key ≤ s.Floor by omega)]; rfl⟩
  omega
 intro h34
 have k34 := of_decide_eq_false h34; try simp only [A6] at k34
 have hge : s.Cells.length ≤ i := by omega
 have hgs2 : goodState s = allB s.Told.length (toldAt s) := by (rw [hgs, hinv.2, List.drop_eq_nil_of_le hge]; rfl)
 refine F1 ?_
 refine A3 (A3 (A2 ?_))
 refine A1 rfl (B5 3 rfl E3 rfl Q9 (A0 rfl) rfl) ?_
 refine A1 rfl (B2 0 rfl (A0 rfl) rfl V2 rfl) ?_
 refine A1 rfl (E7 rfl J8 (A0 rfl)) ?_
 refine A1 rfl (C4 rfl B4) ?_
 refine A4 (C3 ?_)
 refine G4 [(1, _), (47, _), (48, _)] _ (fun (q : Nat) => q ≤ s.Told.length ∧ ∀ j, j < q → toldAt s j = true) (fun (q : Nat) => []) (fun (q : Nat) => [(49, AV.int q)]) (fun (q : Nat) => s.Told.length - q) (0) ?_ (G6 ⟨rfl, rfl, rfl, rfl, trivial⟩) ?_
 ·exact ⟨Nat.zero_le _, fun j hj => by omega⟩
 intro q hinv
 refine A3 (A2 ?_)
 refine A1 rfl (F7 rfl (A0 rfl) (A0 rfl)) ?_
 refine A4 (A3 ?_)
 refine C0 (A0 rfl) ?_ ?_
 ·intro h50
  have k50 := of_decide_eq_true h50; try simp only [A6] at k50
  have hlt : q < s.Told.length := by omega
  obtain ⟨t, hx⟩ := get_some hlt
  obtain ⟨y, hy⟩ := get_some (show q - 1 < s.Told.length by omega)
  refine C1 (A3 (C3 (A3 (A2 ?_))))
  refine A5 rfl ?_
  refine A1 rfl (I8 rfl J8 L3 (A0 rfl) (A0 rfl) hx (by first | omega | (simp only [D3, B0, szR] at *; omega))) ?_
  refine A1 rfl (H0 rfl (A0 rfl) Z2 L3) ?_
  refine I2 rfl rfl rfl rfl Tryz.zeroValue144 rfl ?_
  intro b6
  refine B1 rfl ?_
  refine G9 0 rfl rfl rfl (A0 rfl) (A0 rfl) (I7 _) rfl L3 rfl ?_
  refine A4 (A3 (A3 ?_))
  refine H7 (by kernel_rfl) (by kernel_rfl) rfl ?_
  refine B3 rfl rfl (B5 0 rfl H8 rfl B9 (A0 rfl) rfl) ?_
  refine B3 rfl rfl (B2 0 rfl (A0 rfl) rfl D1 rfl) ?_
  refine B3 rfl rfl (D8 rfl Tryz.call39 rfl (R9 _ _ _) (A8 (A0 rfl) (A8 B4 (A8 B4 C8)))) ?_
  refine B3 rfl rfl (J3 rfl (A0 rfl)) ?_
  refine B3 rfl rfl (C4 rfl (A0 rfl)) ?_
  refine D7 rfl (G8 rfl rfl rfl) (fun hc => C4 rfl (A0 rfl)) ?_
  refine D7 rfl (G8 rfl rfl rfl) (fun hc => S4 rfl (A9 rfl hc) B4) ?_
  refine D7 rfl (G8 rfl rfl rfl) (fun hc => C4 rfl (A9 rfl hc)) ?_
  refine D7 rfl (D9 rfl rfl rfl) (fun hc => B5 3 rfl E3 rfl Q9 (A0 rfl) rfl) ?_
  refine D7 rfl (D9 rfl rfl rfl) (fun hc => B2 1 rfl (A9 rfl hc) rfl V2 rfl) ?_
  refine D7 rfl (D9 rfl rfl rfl) (fun hc => C4 rfl (A0 rfl)) ?_
  refine D7 rfl (D9 rfl rfl rfl) (fun hc => O8 rfl (A9 rfl hc) B4 (by first | omega | ((try simp only [D3, B0, szR] at *); omega) | (have hc2 := hc; simp only [P3, beq_iff_eq, bne_iff_ne, A6, F8] at hc2; omega))) ?_
  refine D7 rfl (D9 rfl rfl rfl) (fun hc => I8 rfl J8 L3 (A9 rfl hc) (A9 rfl hc) hy (by first | omega | ((try simp only [D3, B0, szR] at *); omega) | (have hc2 := hc; simp only [P3, beq_iff_eq, bne_iff_ne, A6, F8] at hc2; omega))) ?_
  refine D7 rfl (D9 rfl rfl rfl) (fun hc => Q8 rfl H8 rfl B9 (A9 rfl hc) rfl) ?_
  refine D7 rfl (D9 rfl rfl rfl) (fun hc => K1 rfl (A9 rfl hc) D1 rfl) ?_
  refine D7 rfl (D9 rfl rfl rfl) (fun hc => B5 0 rfl H8 rfl B9 (A0 rfl) rfl) ?_
  refine D7 rfl (D9 rfl rfl rfl) (fun hc => B2 0 rfl (A9 rfl hc) rfl D1 rfl) ?_
  refine D7 rfl (D9 rfl rfl rfl) (fun hc => X3 rfl (A9 rfl hc) (A9 rfl hc)) ?_
  refine D7 rfl (G8 rfl rfl rfl) (fun hc => I1 rfl (A9 rfl hc) (O2 rfl hc)) ?_
  refine B3 rfl rfl (P4 rfl (A0 rfl) (F6 rfl)) ?_
  refine B3 rfl rfl (C4 rfl (A0 rfl)) ?_
  refine D7 rfl (G8 rfl rfl rfl) (fun hc => B5 1 rfl H8 rfl G3 (A0 rfl) rfl) ?_
  refine D7 rfl (G8 rfl rfl rfl) (fun hc => B2 0 rfl (A9 rfl hc) rfl I9 rfl) ?_
  refine D7 rfl (G8 rfl rfl rfl) (fun hc => C4 rfl (A9 rfl hc)) ?_
  refine D7 rfl (D9 rfl rfl rfl) (fun hc => B5 2 rfl H8 rfl B9 (A0 rfl) rfl) ?_
  refine D7 rfl (D9 rfl rfl rfl) (fun hc => B2 0 rfl (A9 rfl hc) rfl D1 rfl) ?_
  refine D7 rfl (D9 rfl rfl rfl) (fun hc => B5 0 rfl E3 rfl B9 (A0 rfl) rfl) ?_
  refine D7 rfl (D9 rfl rfl rfl) (fun hc => B2 1 rfl (A9 rfl hc) rfl D1 rfl) ?_
  refine D7 rfl (D9 rfl rfl rfl) (fun hc => D8 rfl Tryz.call39 rfl (R9 _ _ _) (A8 (A9 rfl hc) (A8 B4 (A8 (A9 rfl hc) C8)))) ?_
  refine D7 rfl (D9 rfl rfl rfl) (fun hc => J3 rfl (A9 rfl hc)) ?_
  refine D7 rfl (G8 rfl rfl rfl) (fun hc => I1 rfl (A9 rfl hc) (O2 rfl hc)) ?_
  refine B3 rfl rfl (P4 rfl (A0 rfl) (F6 rfl)) ?_
  refine B3 rfl rfl (C4 rfl (A0 rfl)) ?_
  refine D7 rfl (G8 rfl rfl rfl) (fun hc => B5 1 rfl H8 rfl G3 (A0 rfl) rfl) ?_
  refine D7 rfl (G8 rfl rfl rfl) (fun hc => B2 0 rfl (A9 rfl hc) rfl I9 rfl) ?_
  refine D7 rfl (G8 rfl rfl rfl) (fun hc => J3 rfl (A9 rfl hc)) ?_
  refine D7 rfl (G8 rfl rfl rfl) (fun hc => C4 rfl (A9 rfl hc)) ?_
  refine D7 rfl (D9 rfl rfl rfl) (fun hc => B5 2 rfl H8 rfl B9 (A0 rfl) rfl) ?_
  refine D7 rfl (D9 rfl rfl rfl) (fun hc => B2 0 rfl (A9 rfl hc) rfl D1 rfl) ?_
  refine D7 rfl (D9 rfl rfl rfl) (fun hc => S2 rfl (A9 rfl hc) B4) ?_
  refine D7 rfl (G8 rfl rfl rfl) (fun hc => I1 rfl (A9 rfl hc) (O2 rfl hc)) ?_
  refine B3 rfl rfl (P4 rfl (A0 rfl) (F6 rfl)) ?_
  refine O4 ?_
  refine C0 (A0 rfl) ?_ ?_
  ·intro h95
   have hfin : goodState s = false := by (rw [hgs2]; exact V1 hlt (by rw [AD2 hx hy, h95]; rfl))
   refine A3 (A2 ?_)
   refine A1 rfl (A7 rfl E2) ?_
   refine A4 ?_
   refine B8 ?_
   exact E4 rfl (B7 rfl (by exact congrArg AV.bool hfin.symm))
  intro h95
  refine C1 (A3 (A2 ?_))
  refine A1 rfl (L5 1 rfl (A0 rfl) rfl N3 I0 rfl) ?_
  refine A1 rfl (B5 0 rfl H8 rfl B9 (A0 rfl) rfl) ?_
  refine A1 rfl (B2 0 rfl (A0 rfl) rfl D1 rfl) ?_
  refine A1 rfl (D8 rfl Tryz.call128 rfl (Ag4 _ _ (by first | assumption | omega)) (A8 (A0 rfl) (A8 (A0 rfl) C8))) ?_
  refine A5 rfl ?_
  refine A1 rfl (K3 rfl (A0 rfl) rfl) ?_
  refine A1 rfl (K3 rfl (A0 rfl) rfl) ?_
  refine I2 rfl rfl rfl rfl Tryz.zeroValue141 rfl ?_
  intro b7
  refine G9 0 rfl rfl rfl (A0 rfl) (A0 rfl) (I7 _) rfl E8 rfl ?_
  refine B1 rfl ?_
  refine A4 (A3 (A2 ?_))
  refine A5 rfl ?_
  refine A4 ?_
  refine C0 (A0 rfl) ?_ ?_
  ·intro h103
   have hfin : goodState s = false := by (rw [hgs2]; exact V1 hlt (by rw [AD2 hx hy, ← AW9, h103]; simp))
   refine A3 (A2 ?_)
   refine A1 rfl (A7 rfl E2) ?_
   refine A4 ?_
   refine B8 ?_
   exact E4 rfl (B7 rfl (by exact congrArg AV.bool hfin.symm))
  intro h103
  refine C1 (A2 ?_)
  refine A1 rfl (E9 rfl (A0 rfl) B4 (by first | omega | (simp only [D3, B0, szR] at *; omega))) ?_
  refine A5 rfl ?_
  refine A4 ?_
  refine H6 q (q + 1) ?_ ?_ (T3 2 ⟨rfl, rfl, rfl, rfl, trivial⟩)
  ·exact ⟨by omega, fun j hj => if hji : j < q then hinv.2 j hji else (by have e : j = q := (by omega); subst e; rw [AD2 hx hy, h95, ← AW9, h103]; rfl)⟩
  omega
 intro h50
 have k50 := of_decide_eq_false h50; try simp only [A6] at k50
 have hge : s.Told.length ≤ q := by omega
 have hfin : goodState s = true := by (rw [hgs2]; exact e8.2 fun j hj => hinv.2 j (by omega))
 refine F1 ?_
 refine A3 (A2 ?_)
 refine A1 rfl (A7 rfl E2) ?_
 refine A4 ?_
 refine B8 ?_
 exact E4 rfl (B7 rfl (by exact congrArg AV.bool hfin.symm))
end Go.Proofs.YtkegepoihkhihaaGreat

namespace Go.Proofs.YtkegepoihkhihaaGreat
open Go Go.AV Go.M
attribute [local irreducible] OpW OpA OpS AWP FSpec ESpec GSpec OpE RetOk RetOkG RvDen Le Ev GuardIs SrcIs
end Go.Proofs.YtkegepoihkhihaaGreat

namespace Go.Proofs.YtkegepoihkhihaaGreat
open Go Go.AV Go.M
attribute [local irreducible] OpW OpA OpS AWP FSpec ESpec GSpec OpE RetOk RetOkG RvDen Le Ev GuardIs
end Go.Proofs.YtkegepoihkhihaaGreat

namespace Go.Proofs.YtkegepoihkhihaaGreat
open Go Go.AV Go.M
attribute [local irreducible] OpW OpA OpS AWP FSpec ESpec GSpec OpE RetOk RetOkG RvDen Le Ev GuardIs SrcIs
theorem AH2 (a b : Int) : FSpec Tryz.prog 38 [AV.int a, AV.int b] (AV.int (leastI a b)) := by
 refine D0 Tryz.func38 rfl Tryz.ntmps38 rfl ?_
 refine A3 (A2 ?_)
 refine A1 rfl (A7 rfl B4) ?_
 refine A4 (A3 (A3 (A2 ?_)))
 refine A5 rfl ?_
 refine A5 rfl ?_
 refine A1 rfl (F7 rfl (A0 rfl) (A0 rfl)) ?_
 refine A4 ?_
 refine C0 (A0 rfl) ?_ ?_
 ·intro h7
  have k7 := of_decide_eq_true h7; try simp only [A6] at k7
  have he : leastI a b = a := by unfold leastI; rw [if_pos k7]
  rw [he]
  refine A3 (A2 ?_)
  refine A5 rfl ?_
  refine B1 rfl ?_
  refine A4 ?_
  refine B8 ?_
  exact E4 rfl (B7 rfl (by first | rfl | (refine congrArg AV.bool ?_; simp_all; done)))
 intro h7
 have k7 := of_decide_eq_false h7; try simp only [A6] at k7
 have he : leastI a b = b := by unfold leastI; rw [if_neg k7]
 rw [he]
 refine C1 (A3 (A2 ?_))
 refine A5 rfl ?_
 refine B1 rfl ?_
 refine A4 ?_
 refine B8 ?_
 exact E4 rfl (B7 rfl (by first | rfl | (refine congrArg AV.bool ?_; simp_all; done)))
end Go.Proofs.YtkegepoihkhihaaGreat

set_option maxHeartbeats 2000000
namespace Go.M
open Go.AV
structure SO (s : TState) : Prop where
  floor : 0 ≤ s.Floor
  cells : CellsOk s.Cells
  hsort : s.Held.Pairwise fun a b => a.Txn < b.Txn
  tsort : s.Told.Pairwise fun a b => a.Txn < b.Txn
  times : ∀ h ∈ s.Held, 1 ≤ h.Time
end Go.M
namespace Go.Proofs.YtkegepoihkhihaaGreat
open Go Go.AV Go.M
attribute [local irreducible] OpW OpA OpS AWP FSpec ESpec GSpec OpE RetOk RetOkG RvDen Le Ev GuardIs SrcIs Int.tmod Int.tdiv IntKind.wrap
theorem Ag5 (a b : Int) : FSpec Tryz.prog 62 [AV.int a, AV.int b] (AV.int (if a < b then b else a)) := by
 refine D0 Tryz.func62 rfl Tryz.ntmps62 rfl ?_
 refine A3 (A2 ?_)
 refine A1 rfl (A7 rfl B4) ?_
 refine A4 (A3 (A3 (A2 ?_)))
 refine A5 rfl ?_
 refine A5 rfl ?_
 refine A1 rfl (S4 rfl (A0 rfl) (A0 rfl)) ?_
 refine A4 ?_
 refine C0 (A0 rfl) ?_ ?_
 ·intro h7
  have k7 := of_decide_eq_true h7; try simp only [A6] at k7
  have h9 := of_decide_eq_true h7
  refine A3 (A2 ?_)
  refine A5 rfl ?_
  refine B1 rfl ?_
  refine A4 ?_
  refine B8 ?_
  exact E4 rfl (B7 rfl (by exact congrArg AV.int (by split <;> omega)))
 intro h7
 have k7 := of_decide_eq_false h7; try simp only [A6] at k7
 have h9 := of_decide_eq_false h7
 refine C1 (A3 (A2 ?_))
 refine A5 rfl ?_
 refine B1 rfl ?_
 refine A4 ?_
 refine B8 ?_
 exact E4 rfl (B7 rfl (by exact congrArg AV.int (by split <;> omega)))
end Go.Proofs.YtkegepoihkhihaaGreat

set_option maxHeartbeats 1000000
namespace Go.M
open Go.AV
end Go.M
namespace Go.Proofs.YtkegepoihkhihaaGreat
open Go Go.AV Go.M
attribute [local irreducible] OpW OpA OpS AWP FSpec ESpec GSpec OpE RetOk RetOkG RvDen Le Ev GuardIs SrcIs Int.tmod Int.tdiv IntKind.wrap
theorem Aa1 (s : TState) (hg : goodState s = true) : FSpec Tryz.prog 81 [AV.agg s.cs] (AV.int (settled s)) := by
 have g := r4.1 hg
 have hhl := g.hlen
 refine D0 Tryz.func81 rfl Tryz.ntmps81 rfl ?_
 refine A3 (A2 ?_)
 refine I6 rfl rfl rfl rfl (A0 rfl) ?_
 intro b1
 refine A1 rfl (A7 rfl B4) ?_
 refine A4 (A3 (A2 ?_))
 refine A1 rfl (B5 0 rfl E3 rfl B9 (A0 rfl) rfl) ?_
 refine A1 rfl (B2 0 rfl (A0 rfl) rfl D1 rfl) ?_
 refine B1 rfl ?_
 refine A4 (A3 (A3 (A2 ?_)))
 refine A1 rfl (B5 2 rfl E3 rfl M9 (A0 rfl) rfl) ?_
 refine A1 rfl (B2 0 rfl (A0 rfl) rfl P9 rfl) ?_
 refine A1 rfl (E7 rfl F5 (A0 rfl)) ?_
 refine A1 rfl (C4 rfl B4) ?_
 refine A4 (C3 ?_)
 refine G4 [(2, _), (9, _), (10, _)] _ (fun (i : Nat) => i ≤ s.Held.length) (fun (i : Nat) => []) (fun (i : Nat) => [(3, AV.int ((s.Held.take i).foldl (fun o h => min o (h.Time - 1)) s.Floor)), (11, AV.int i)]) (fun (i : Nat) => s.Held.length - i) (0) ?_ (G6 ⟨rfl, rfl, rfl, rfl, rfl, trivial⟩) ?_
 ·exact Nat.zero_le _
 intro i hinv
 refine A3 (A2 ?_)
 refine A1 rfl (F7 rfl (A0 rfl) (A0 rfl)) ?_
 refine A4 (A3 ?_)
 refine C0 (A0 rfl) ?_ ?_
 ·intro h12
  have k12 := of_decide_eq_true h12; try simp only [A6] at k12
  have hlt : i < s.Held.length := by omega
  obtain ⟨h, hx⟩ := get_some hlt
  obtain ⟨q1, q2, q3⟩ := AP6 g (H5 hx)
  refine C1 (A3 (C3 (A3 (A2 ?_))))
  refine A1 rfl (I8 rfl F5 E8 (A0 rfl) (A0 rfl) hx (by first | omega | (simp only [D3, B0, szR] at *; omega))) ?_
  refine A1 rfl (H0 rfl (A0 rfl) K5 E8) ?_
  refine I2 rfl rfl rfl rfl Tryz.zeroValue141 rfl ?_
  intro b5
  refine G9 0 rfl rfl rfl (A0 rfl) (A0 rfl) (I7 _) rfl E8 rfl ?_
  refine A4 (A2 ?_)
  refine A5 rfl ?_
  refine A1 rfl (B5 1 rfl E1 rfl B9 (A0 rfl) rfl) ?_
  refine A1 rfl (B2 0 rfl (A0 rfl) rfl D1 rfl) ?_
  refine A1 rfl (O8 rfl (A0 rfl) B4 (by first | omega | (simp only [D3, B0, szR] at *; omega))) ?_
  refine A1 rfl (D8 rfl Tryz.call38 rfl (AH2 _ _) (A8 (A0 rfl) (A8 (A0 rfl) C8))) ?_
  refine B1 rfl ?_
  refine A4 (A2 ?_)
  refine A1 rfl (E9 rfl (A0 rfl) B4 (by first | omega | (simp only [D3, B0, szR] at *; omega))) ?_
  refine A5 rfl ?_
  refine A4 ?_
  refine H6 i (i + 1) ?_ ?_ (T3 1 ⟨congrArg (fun z => some (AV.int z)) (by rw [AH1 hx]; unfold leastI; split <;> split <;> omega), rfl, rfl, rfl, rfl, trivial⟩)
  ·omega
  omega
 intro h12
 have k12 := of_decide_eq_false h12; try simp only [A6] at k12
 have hge : s.Held.length ≤ i := by omega
 rw [List.take_of_length_le hge]
 refine F1 ?_
 refine A3 (A2 ?_)
 refine A5 rfl ?_
 refine B1 rfl ?_
 refine A4 ?_
 refine B8 ?_
 exact E4 rfl (B7 rfl (by rfl))
theorem AQ2 (s : TState) (hs : s.size ≤ 1048576) : FSpec Tryz.prog 37 [AV.agg s.cs] (AV.tup [AV.int (settledR s).1, AV.bool (settledR s).2]) := by
 refine D0 Tryz.func37 rfl Tryz.ntmps37 rfl ?_
 refine A3 (A2 ?_)
 refine I6 rfl rfl rfl rfl (A0 rfl) ?_
 intro b1
 refine A1 rfl (A7 rfl B4) ?_
 refine A1 rfl (A7 rfl E2) ?_
 refine A4 (A3 (A3 (A2 ?_)))
 refine A1 rfl (L5 0 rfl (A0 rfl) rfl N3 I0 rfl) ?_
 refine A1 rfl (D8 rfl Tryz.call80 rfl (AQ1 _ (by first | assumption | omega)) (A8 (A0 rfl) C8)) ?_
 refine A1 rfl (J3 rfl (A0 rfl)) ?_
 refine A4 ?_
 refine C0 (A0 rfl) ?_ ?_
 ·intro h6
  have he : settledR s = (0, false) := if_neg (by simpa using h6)
  rw [he]
  refine A3 (A2 ?_)
  refine A1 rfl (A7 rfl B4) ?_
  refine A1 rfl (A7 rfl E2) ?_
  refine A4 ?_
  refine B8 ?_
  exact g9 rfl (by decide) (J2 (B7 rfl (by rfl)) (J2 (B7 rfl (by rfl)) R6))
 intro h6
 have hg : goodState s = true := by simpa using h6
 have he : settledR s = (settled s, true) := if_pos hg
 rw [he]
 refine C1 (A3 (A2 ?_))
 refine A1 rfl (L5 0 rfl (A0 rfl) rfl N3 I0 rfl) ?_
 refine A1 rfl (D8 rfl Tryz.call81 rfl (Aa1 _ (by assumption)) (A8 (A0 rfl) C8)) ?_
 refine B1 rfl ?_
 refine A1 rfl (A7 rfl E2) ?_
 refine A4 ?_
 refine B8 ?_
 exact g9 rfl (by decide) (J2 (B7 rfl (by rfl)) (J2 (B7 rfl (by rfl)) R6))
end Go.Proofs.YtkegepoihkhihaaGreat

namespace Go.M
open Go.AV
def inTime (a u : Int) (v : TVer) : Bool := decide (a < v.Time) && decide (v.Time ≤ u)
def itemOf (g : Int) (k : Str) (v : TVer) : TFeedItem := ⟨v.Time, g, k, v.Val, v.Gone⟩
def cellItems (g a u : Int) (c : TCell) : List TFeedItem := (c.Vers.filter (inTime a u)).map (itemOf g c.Key)
def rawItems (l : List TCell) (g a u : Int) : List TFeedItem := (l.map (cellItems g a u)).flatten
def Cmb (x y : TFeedItem) : Prop := l23Ahead x y = true ∨ l23Ahead y x = true
def Dist (l : List TFeedItem) : Prop := l.Pairwise Cmb
theorem Cmb.symm {x y : TFeedItem} (h : Cmb x y) : Cmb y x := Or.symm h
theorem cmb_ne {x y : TFeedItem} (h : Cmb x y) : x ≠ y := fun e => by
  subst e
  rcases h with h | h <;> (rw [p6] at h; cases h)
theorem AQ3 {x y : TFeedItem} (h : ¬ sameKey x y) : Cmb x y := by
  rcases AV7 x y with k | k | k
  · exact .inl k
  · exact (h k).elim
  · exact .inr k
theorem m8 {l : List TFeedItem} (h : Dist l) : l.Nodup := h.imp fun {a b} hab => cmb_ne hab
theorem u9 {l : List TFeedItem} (h : Srt l) : Dist l := h.imp fun {a b} hab => .inl hab
def insAll (o : List TFeedItem) (l : List TFeedItem) : List TFeedItem := l.foldl (fun o x => (putR o x).1) o
def feedIn (l : List TCell) (g a u : Int) : List TFeedItem := insAll [] (rawItems l g a u)
theorem j0 {g a u : Int} {c : TCell} {x : TFeedItem} : x ∈ cellItems g a u c ↔ ∃ v ∈ c.Vers, (a < v.Time ∧ v.Time ≤ u) ∧ x = itemOf g c.Key v := by
  unfold cellItems inTime
  simp only [List.mem_map, List.mem_filter, Bool.and_eq_true, decide_eq_true_eq]
  constructor
  · rintro ⟨v, ⟨h1, h2⟩, rfl⟩; exact ⟨v, h1, h2, rfl⟩
  · rintro ⟨v, h1, h2, rfl⟩; exact ⟨v, ⟨h1, h2⟩, rfl⟩
theorem AH3 {l : List TCell} {g a u : Int} {x : TFeedItem} : x ∈ rawItems l g a u ↔ ∃ c ∈ l, ∃ v ∈ c.Vers, (a < v.Time ∧ v.Time ≤ u) ∧ x = itemOf g c.Key v := by
  unfold rawItems
  simp only [List.mem_flatten, List.mem_map]
  constructor
  · rintro ⟨_, ⟨c, hc, rfl⟩, hx⟩; exact ⟨c, hc, j0.1 hx⟩
  · rintro ⟨c, hc, hx⟩; exact ⟨_, ⟨c, hc, rfl⟩, j0.2 hx⟩
theorem AM9 {l : List TCell} (ha : adj cLess l = true) (hv : ∀ c ∈ l, adj verLess c.Vers = true) (g a u : Int) : Dist (rawItems l g a u) := by
  unfold Dist rawItems
  rw [List.pairwise_flatten, List.pairwise_map]
  refine ⟨fun m hm => ?_, ((y5 i9).1 ha).imp fun {c d} hcd x hx y hy => ?_⟩
  · obtain ⟨c, hc, rfl⟩ := List.mem_map.1 hm
    unfold cellItems
    rw [List.pairwise_map]
    refine (List.Pairwise.sublist List.filter_sublist ((y5 AY4).1 (hv c hc))).imp fun {v w} hvw => AQ3 fun hs => ?_
    have := hs.1
    unfold verLess at hvw
    have := of_decide_eq_true hvw
    unfold itemOf at hs
    have := hs.1
    dsimp only at this
    omega
  · obtain ⟨v, _, _, rfl⟩ := j0.1 hx
    obtain ⟨w, _, _, rfl⟩ := j0.1 hy
    refine AQ3 fun hs => ?_
    have h2 : c.Key = d.Key := hs.2.2
    unfold cLess at hcd
    rw [h2, M4] at hcd; cases hcd
theorem AX1 : ∀ {l o : List TFeedItem}, Srt o → (∀ x ∈ l, ∀ y ∈ o, Cmb x y) → Dist l → Srt (insAll o l) ∧ ∀ z, z ∈ insAll o l ↔ z ∈ o ∨ z ∈ l
  | [], o, h, _, _ => ⟨h, fun z => by unfold insAll; simp⟩
  | x :: l, o, h, hc, hd => by
    obtain ⟨d1, d2⟩ := List.pairwise_cons.1 hd
    have hp : (putR o x).2 = true := by
      cases e : (putR o x).2 with
      | true => rfl
      | false =>
        obtain ⟨y, hy, _, h3, h4⟩ := AS6 e
        rcases hc x List.mem_cons_self y hy with k | k
        · rw [h4] at k; cases k
        · rw [h3] at k; cases k
    obtain ⟨p1, p2⟩ := AS5 h hp
    obtain ⟨i1, i2⟩ := AX1 (l := l) (o := (putR o x).1) p1 (fun z hz y hy => by
      rcases (p2 y).1 hy with hy | rfl
      · exact hc z (List.mem_cons_of_mem _ hz) y hy
      · exact (d1 z hz).symm) d2
    refine ⟨i1, fun z => ?_⟩
    show z ∈ insAll (putR o x).1 l ↔ _
    rw [i2, p2, List.mem_cons, or_assoc]
theorem f0 {l : List TCell} (ha : adj cLess l = true) (hv : ∀ c ∈ l, adj verLess c.Vers = true) (g a u : Int) : Srt (feedIn l g a u) ∧ ∀ z, z ∈ feedIn l g a u ↔ z ∈ rawItems l g a u := by
  obtain ⟨h1, h2⟩ := AX1 (l := rawItems l g a u) (o := []) List.Pairwise.nil (fun _ _ y hy => by cases hy) (AM9 ha hv g a u)
  exact ⟨h1, fun z => by unfold feedIn; rw [h2]; simp⟩
theorem AX2 {a b : List TFeedItem} (ha : a.Nodup) (hb : b.Nodup) (h : ∀ z, z ∈ a ↔ z ∈ b) : a.length = b.length :=
  Nat.le_antisymm (AM5 ha fun x hx => (h x).1 hx) (AM5 hb fun x hx => (h x).2 hx)
theorem AQ4 {l : List TCell} (ha : adj cLess l = true) (hv : ∀ c ∈ l, adj verLess c.Vers = true) (g a u : Int) : (feedIn l g a u).length = (rawItems l g a u).length :=
  AX2 (m8 (u9 (f0 ha hv g a u).1)) (m8 (AM9 ha hv g a u)) (f0 ha hv g a u).2
theorem AQ5 {l l' : List TFeedItem} (hp : l'.Perm l) (hd : Dist l) (hs : SortedOn l23Ahead l' 0 l'.length) : Srt l' := by
  have hd2 : Dist l' := (hp.pairwise_iff (fun {x y} h => Cmb.symm h)).2 hd
  unfold Srt
  rw [List.pairwise_iff_getElem]
  intro i j hi hj hij
  rcases List.pairwise_iff_getElem.1 hd2 i j hi hj hij with h | h
  · exact h
  · have := hs i j _ _ (Nat.zero_le _) hij hj (List.getElem?_eq_getElem hi) (List.getElem?_eq_getElem hj)
    rw [h] at this; cases this
theorem Aw5 {l : List TCell} (ha : adj cLess l = true) (hv : ∀ c ∈ l, adj verLess c.Vers = true) {g a u : Int} {l' : List TFeedItem} (hp : l'.Perm (rawItems l g a u)) (hs : SortedOn l23Ahead l' 0 l'.length) : l' = feedIn l g a u :=
  AS3 (AQ5 hp (AM9 ha hv g a u) hs) (f0 ha hv g a u).1 fun z => by rw [hp.mem_iff, (f0 ha hv g a u).2]
theorem f4 {l : List TCell} (h : goodCells l = true) : adj cLess l = true ∧ ∀ c ∈ l, adj verLess c.Vers = true := ⟨(Q3 h).2.1, fun c hc => ((Q3 h).2.2 c hc).2.2.2.1⟩
theorem AI5 : ∀ {l : List TCell} {g a u : Int}, (∀ c ∈ l, c.Vers.length ≤ 16) → (rawItems l g a u).length ≤ 16 * l.length
  | [], g, a, u, _ => by unfold rawItems; simp
  | c :: l, g, a, u, h => by
    have ih := AI5 (g := g) (a := a) (u := u) fun d hd => h d (List.mem_cons_of_mem _ hd)
    have h1 := h c List.mem_cons_self
    unfold rawItems at ih ⊢
    rw [List.map_cons, List.flatten_cons, I5, K0]
    have h2 : (cellItems g a u c).length ≤ c.Vers.length := by unfold cellItems; rw [A6]; exact List.length_filter_le _ _
    omega
theorem AK4 {l : List TCell} (h : goodCells l = true) {g : Int} (hg : isGroup g = true) (a u : Int) : l23Feed (feedIn l g a u) = true ∧ (feedIn l g a u).length ≤ 384 ∧ (feedIn l g a u).length = (rawItems l g a u).length := by
  obtain ⟨f1, f2, f3⟩ := Q3 h
  obtain ⟨c1, c2⟩ := f4 h
  obtain ⟨k1, k2⟩ := f0 c1 c2 g a u
  have hl := AQ4 c1 c2 g a u
  have hr := AI5 (g := g) (a := a) (u := u) fun c hc => (f3 c hc).2.2.1
  refine ⟨(U0 _).2 ⟨fun x hx => ?_, k1, by omega⟩, by omega, hl⟩
  obtain ⟨c, hc, v, hv, _, rfl⟩ := AH3.1 ((k2 x).1 hx)
  have h1 := (f3 c hc).1
  have h2 := (f3 c hc).2.2.2.2 v hv
  rw [← AJ1]
  unfold goodItem itemOf
  unfold verGood at h2
  simp only [Bool.and_eq_true] at h2 ⊢
  exact ⟨⟨⟨h2.1, hg⟩, h1⟩, h2.2⟩
theorem m9 {l : List TCell} (h : goodCells l = true) {g a u : Int} {x : TFeedItem} (hx : x ∈ feedIn l g a u) : x.Group = g ∧ a < x.Time ∧ x.Time ≤ u := by
  obtain ⟨c1, c2⟩ := f4 h
  obtain ⟨c, hc, v, hv, ht, rfl⟩ := AH3.1 (((f0 c1 c2 g a u).2 x).1 hx)
  exact ⟨rfl, ht⟩
def allItems (a u : Int) : Nat → List TState → List TFeedItem
  | _, [] => []
  | i, s :: l => feedIn s.Cells i a u ++ allItems a u (i + 1) l
def mergeN (a u : Int) (o : List TFeedItem) : Nat → List TState → Option (List TFeedItem)
  | _, [] => some o
  | i, s :: l => if (mergeF o (feedIn s.Cells i a u)).2 = true then mergeN a u (mergeF o (feedIn s.Cells i a u)).1 (i + 1) l else none
theorem AX3 : ∀ {l : List TState} {i : Nat} {a u : Int}, (∀ s ∈ l, goodCells s.Cells = true) → ∀ x ∈ allItems a u i l, (i : Int) ≤ x.Group ∧ a < x.Time ∧ x.Time ≤ u
  | [], i, a, u, _, x, hx => by cases hx
  | s :: l, i, a, u, h, x, hx => by
    rcases List.mem_append.1 hx with hx | hx
    · obtain ⟨h1, h2⟩ := m9 (h s List.mem_cons_self) hx
      exact ⟨by omega, h2⟩
    · obtain ⟨h1, h2⟩ := AX3 (fun t ht => h t (List.mem_cons_of_mem _ ht)) x hx
      exact ⟨by omega, h2⟩
theorem Ag6 : ∀ {l : List TState} {i : Nat} {a u : Int}, (∀ s ∈ l, goodCells s.Cells = true) → Dist (allItems a u i l)
  | [], i, a, u, _ => List.Pairwise.nil
  | s :: l, i, a, u, h => by
    obtain ⟨c1, c2⟩ := f4 (h s List.mem_cons_self)
    have hl := fun t ht => h t (List.mem_cons_of_mem s ht)
    unfold allItems Dist
    rw [List.pairwise_append]
    refine ⟨u9 (f0 c1 c2 i a u).1, Ag6 hl, fun x hx y hy => AQ3 fun hs => ?_⟩
    have h1 := (m9 (h s List.mem_cons_self) hx).1
    have h2 := (AX3 hl y hy).1
    have h3 := hs.2.1
    omega
theorem AA3 : ∀ {l : List TState} {i : Nat} {a u : Int} {o : List TFeedItem}, (∀ s ∈ l, goodCells s.Cells = true) → i + l.length ≤ 4 → l23Feed o = true → (∀ x ∈ o, x.Group < (i : Int)) →
    (o.length + (allItems a u i l).length ≤ 400 → ∃ r, mergeN a u o i l = some r ∧ Srt r ∧ (∀ z, z ∈ r ↔ z ∈ o ∨ z ∈ allItems a u i l) ∧ l23Feed r = true) ∧ (400 < o.length + (allItems a u i l).length → mergeN a u o i l = none)
  | [], i, a, u, o, _, _, ho, _ => by
    have h3 := ((U0 o).1 ho)
    refine ⟨fun _ => ⟨o, rfl, h3.2.1, fun z => by unfold allItems; simp, ho⟩, fun h => ?_⟩
    have := h3.2.2
    unfold allItems at h; simp at h; omega
  | s :: l, i, a, u, o, hg, hi, ho, hog => by
    have hs := hg s List.mem_cons_self
    have hl := fun t ht => hg t (List.mem_cons_of_mem s ht)
    rw [K0] at hi
    have higr : isGroup (i : Int) = true := by unfold isGroup within; simp; omega
    obtain ⟨f1, f2, f3⟩ := AK4 hs higr a u
    obtain ⟨o1, o2, o3⟩ := (U0 o).1 ho
    obtain ⟨g1, g2, g3⟩ := (U0 _).1 f1
    have hcross : ∀ x ∈ o, ∀ y ∈ feedIn s.Cells i a u, Cmb x y := fun x hx y hy => AQ3 fun hk => by
      have h1 := hog x hx
      have h2 := (m9 hs hy).1
      have h3 := hk.2.1
      omega
    have hcmb : ∀ x y, (x ∈ o ∨ x ∈ feedIn s.Cells i a u) → (y ∈ o ∨ y ∈ feedIn s.Cells i a u) → x ≠ y → Cmb x y := fun x y hx hy hne => by
      rcases hx with hx | hx <;> rcases hy with hy | hy
      · cases h1 : l23Ahead x y with
        | true => exact .inl h1
        | false => cases h2 : l23Ahead y x with
          | true => exact .inr h2
          | false => exact (hne (AS2 o2 x hx y hy h1 h2)).elim
      · exact hcross x hx y hy
      · exact (hcross y hy x hx).symm
      · cases h1 : l23Ahead x y with
        | true => exact .inl h1
        | false => cases h2 : l23Ahead y x with
          | true => exact .inr h2
          | false => exact (hne (AS2 g2 x hx y hy h1 h2)).elim
    obtain ⟨r, hr⟩ : ∃ r, mergeAll o (feedIn s.Cells i a u) = some r := by
      cases e : mergeAll o (feedIn s.Cells i a u) with
      | some r => exact ⟨r, rfl⟩
      | none =>
        obtain ⟨x, y, hx, hy, hne, h1, h2⟩ := AE3 e
        rcases hcmb x y hx hy hne with k | k
        · rw [h1] at k; cases k
        · rw [h2] at k; cases k
    obtain ⟨r1, r2, r3⟩ := q9 o2 hr
    have hlen : r.length = o.length + (feedIn s.Cells i a u).length := by
      rw [← I5]
      refine AX2 (m8 (u9 r1)) ?_ fun z => by rw [r2, List.mem_append]
      rw [List.nodup_append]
      exact ⟨m8 (u9 o2), m8 (u9 g2), fun x hx y hy => cmb_ne (hcross x hx y hy)⟩
    have hme : mergeF o (feedIn s.Cells i a u) = if 400 < r.length then ([], false) else (r, true) := by unfold mergeF; rw [if_pos ⟨ho, f1⟩, hr]
    unfold mergeN allItems
    rw [I5, hme]
    by_cases hbig : 400 < r.length
    · rw [if_pos hbig, if_neg (by simp)]
      exact ⟨fun h => by omega, fun _ => rfl⟩
    · rw [if_neg hbig, if_pos rfl]
      have hrf : l23Feed r = true := (U0 r).2 ⟨fun x hx => ((r2 x).1 hx).elim (o1 x) (g1 x), r1, by omega⟩
      obtain ⟨i1, i2⟩ := AA3 (l := l) (i := i + 1) (a := a) (u := u) (o := r) hl (by omega) hrf fun x hx => by
        rcases (r2 x).1 hx with hx | hx
        · have := hog x hx; omega
        · have := (m9 hs hx).1; omega
      refine ⟨fun h => ?_, fun h => i2 (by omega)⟩
      obtain ⟨q, q1, q2, q3, q4⟩ := i1 (by omega)
      exact ⟨q, q1, q2, fun z => by rw [q3, r2, List.mem_append, or_assoc], q4⟩
theorem next_eq {l : List TState} {a u : Int} {l' : List TFeedItem} (hg : ∀ s ∈ l, goodCells s.Cells = true) (hl : l.length ≤ 4) (hp : l'.Perm (allItems a u 0 l)) (hs : SortedOn l23Ahead l' 0 l'.length) : (if isFeed l' = true then some l' else none) = mergeN a u [] 0 l := by
  have hsr := AQ5 hp (Ag6 hg) hs
  obtain ⟨m1, m2⟩ := AA3 (l := l) (i := 0) (a := a) (u := u) (o := []) hg (by omega) (by decide) (fun x hx => by cases hx)
  have hlen := hp.length_eq
  simp only [X1, Nat.zero_add] at m1 m2
  by_cases h : l'.length ≤ 400
  · obtain ⟨r, r1, r2, r3, _⟩ := m1 (by omega)
    rw [if_pos ((AO4 _).2 ⟨hsr, h⟩), r1]
    exact congrArg some (AS3 hsr r2 fun z => by rw [r3, hp.mem_iff]; simp)
  · rw [if_neg fun k => h ((AO4 _).1 k).2, m2 (by omega)]
end Go.M

namespace Go.M
open Go.AV
end Go.M

namespace Go.M
open Go.AV
def areStates (l : List TState) : Bool := within (l.length : Int) 1 4 && l.all goodState
def sureL (l : List TState) : Int := l.foldl (fun o s => min o (settled s)) 100000
def sureR (l : List TState) : Int × Bool := if areStates l = true then (sureL l, true) else (0, false)
def mxI (a b : Int) : Int := if b > a then b else a
def nextR (d : Int) (l : List TState) : Int × List TFeedItem × Bool :=
  if (isTrue d && areStates l) = true then (match mergeN d (mxI d (sureL l)) [] 0 l with | some r => (mxI d (sureL l), r, true) | none => (0, [], false)) else (0, [], false)
theorem r8 {l : List TState} : areStates l = true ↔ 1 ≤ l.length ∧ l.length ≤ 4 ∧ ∀ s ∈ l, goodState s = true := by
  unfold areStates within
  simp only [Bool.and_eq_true, decide_eq_true_eq, List.all_eq_true]
  constructor
  · rintro ⟨⟨a, b⟩, c⟩; exact ⟨by omega, by omega, c⟩
  · rintro ⟨a, b, c⟩; exact ⟨⟨by omega, by omega⟩, c⟩
theorem v8 {l : List TState} (h : ∀ s ∈ l, goodState s = true) : ∀ s ∈ l, goodCells s.Cells = true := fun s hs => (r4.1 (h s hs)).cells
theorem Ar8 {a u : Int} {l : List TState} {r : List TFeedItem} (hg : ∀ s ∈ l, goodCells s.Cells = true) (hl : l.length ≤ 4) (h : mergeN a u [] 0 l = some r) : Srt r ∧ (∀ z, z ∈ r ↔ z ∈ allItems a u 0 l) ∧ l23Feed r = true := by
  obtain ⟨m1, m2⟩ := AA3 (l := l) (i := 0) (a := a) (u := u) (o := []) hg (by omega) (by decide) (fun x hx => by cases hx)
  simp only [X1, Nat.zero_add] at m1 m2
  by_cases hle : (allItems a u 0 l).length ≤ 400
  · obtain ⟨q, q1, q2, q3, q4⟩ := m1 hle
    rw [q1] at h; injection h with h; subst h
    exact ⟨q2, fun z => by rw [q3]; simp, q4⟩
  · rw [m2 (by omega)] at h; cases h
theorem Aw6 {d : Int} {l : List TState} (h : (nextR d l).2.2 = true) : ∃ r, isTrue d = true ∧ areStates l = true ∧ mergeN d (mxI d (sureL l)) [] 0 l = some r ∧ nextR d l = (mxI d (sureL l), r, true) := by
  unfold nextR at h ⊢
  by_cases hc : (isTrue d && areStates l) = true
  · rw [if_pos hc] at h ⊢
    rw [Bool.and_eq_true] at hc
    cases e : mergeN d (mxI d (sureL l)) [] 0 l with
    | none => rw [e] at h; cases h
    | some r => exact ⟨r, hc.1, hc.2, rfl, rfl⟩
  · rw [if_neg hc] at h; cases h
theorem next_not {d : Int} {l : List TState} (h : (nextR d l).2.2 = false) : nextR d l = (0, [], false) := by
  unfold nextR at h ⊢
  by_cases hc : (isTrue d && areStates l) = true
  · rw [if_pos hc] at h ⊢
    cases e : mergeN d (mxI d (sureL l)) [] 0 l with
    | none => rfl
    | some r => rw [e] at h; cases h
  · rw [if_neg hc]
structure Fed (A : List TFeedItem) (F : Int) (p q : TState) : Prop where
  srt : Srt A
  mem : ∀ z, z ∈ A ↔ z ∈ allItems 0 F 0 [p, q]
  pos : 0 ≤ F
end Go.M

set_option maxHeartbeats 2000000
namespace Go.M
open Go.AV
theorem AX4 {l : List TState} {i : Nat} {x : TState} (h : l[i]? = some x) : sureL (l.take (i + 1)) = min (sureL (l.take i)) (settled x) := by
  unfold sureL; rw [List.take_add_one, h, List.foldl_append]; rfl
theorem min_if (a b : Int) : (if b < a then b else a) = min a b := by rw [Int.min_def]; split <;> split <;> omega
theorem Aw7 (a b : Int) : leastI a b = min a b := by unfold leastI; rw [Int.min_def]; split <;> split <;> omega
theorem Ag7 (l : List TState) : (!l.any fun s => !goodState s) = l.all goodState := by
  induction l with
  | nil => rfl
  | cons x l ih => rw [List.any_cons, List.all_cons, ← ih]; cases goodState x <;> simp
theorem Ar9 {l : List TState} {x : TState} (hx : x ∈ l) (h : goodState x = false) : areStates l = false := by
  unfold areStates
  rw [show l.all goodState = false from List.all_eq_false.2 ⟨x, hx, by rw [h]; decide⟩, Bool.and_false]
end Go.M
namespace Go.Proofs.YtkegepoihkhihaaGreat
open Go Go.AV Go.M
attribute [local irreducible] OpW OpA OpS AWP FSpec ESpec GSpec OpE RetOk RetOkG RvDen Le Ev GuardIs SrcIs SrcE Int.tmod IntKind.wrap bandI
theorem AQ6 (s : TState) (hs : s.size ≤ 1048576) : FSpec Tryz.prog 84 [AV.agg s.cs] (AV.bool (!goodState s)) := by
 refine D0 Tryz.func84 rfl Tryz.ntmps84 rfl ?_
 refine A3 (A2 ?_)
 refine I6 rfl rfl rfl rfl (A0 rfl) ?_
 intro b1
 refine A1 rfl (A7 rfl E2) ?_
 refine A4 (A3 (A2 ?_))
 refine A1 rfl (L5 0 rfl (A0 rfl) rfl N3 I0 rfl) ?_
 refine A1 rfl (D8 rfl Tryz.call50 rfl (AT7 _ (by first | assumption | omega)) (A8 (A0 rfl) C8)) ?_
 refine A1 rfl (J3 rfl (A0 rfl)) ?_
 refine B1 rfl ?_
 refine A4 ?_
 refine B8 ?_
 exact E4 rfl (B7 rfl (by rfl))
theorem AT9 (l : List TState) (hs : ∀ s ∈ l, s.size ≤ 1048576) : FSpec Tryz.prog 40 [AV.list 4 (l.map TState.cs)] (AV.bool (areStates l)) := by
 refine D0 Tryz.func40 rfl Tryz.ntmps40 rfl ?_
 refine A3 (A2 ?_)
 refine A1 rfl (A7 rfl E2) ?_
 refine A4 (A3 (A2 ?_))
 refine A5 rfl ?_
 refine A1 rfl (E7 rfl I4 (A0 rfl)) ?_
 refine A1 rfl (D8 rfl Tryz.call82 rfl (W9 _ _ _) (A8 (A0 rfl) (A8 B4 (A8 B4 C8)))) ?_
 refine A5 rfl ?_
 refine D4 rfl (fun hc => C4 rfl (A0 rfl)) ?_
 refine D4 rfl (fun hc => D8 rfl Tryz.call83 rfl (z6 l (fun s => s.size ≤ 1048576) (fun s => !goodState s) hs) (A8 (A9 rfl hc) (A8 (Am6 Tryz.call84 (fun s h => AQ6 s h)) C8))) ?_
 refine D4 rfl (fun hc => J3 rfl (A9 rfl hc)) ?_
 refine A1 rfl (I1 rfl (A0 rfl) (F6 rfl)) ?_
 refine B1 rfl ?_
 refine A4 ?_
 refine B8 ?_
 exact E4 rfl (B7 rfl (by exact congrArg AV.bool (by unfold areStates; rw [← Ag7, A6])))
theorem Ak9 (l : List TState) (hg : ∀ s ∈ l, goodState s = true) : FSpec Tryz.prog 41 [AV.list 4 (l.map TState.cs)] (AV.int (sureL l)) := by
 refine D0 Tryz.func41 rfl Tryz.ntmps41 rfl ?_
 refine M6 (t := 0) rfl fun hl => ?_
 try simp only [A6] at hl
 refine A3 (A2 ?_)
 refine A1 rfl (A7 rfl B4) ?_
 refine A4 (A3 (A2 ?_))
 refine A1 rfl (A7 rfl B4) ?_
 refine A4 (A3 (A3 (A2 ?_)))
 refine A5 rfl ?_
 refine A1 rfl (E7 rfl I4 (A0 rfl)) ?_
 refine A1 rfl (C4 rfl B4) ?_
 refine A4 (C3 ?_)
 refine G4 [(2, _), (6, _), (7, _)] _ (fun (i : Nat) => i ≤ l.length) (fun (i : Nat) => []) (fun (i : Nat) => [(3, AV.int (sureL (l.take i))), (8, AV.int i)]) (fun (i : Nat) => l.length - i) (0) ?_ (J9 (by rfl) ⟨rfl, rfl, rfl, rfl, rfl, trivial⟩) ?_
 ·exact Nat.zero_le _
 intro i hinv
 refine A3 (A2 ?_)
 refine A1 rfl (F7 rfl (A0 rfl) (A0 rfl)) ?_
 refine A4 (A3 ?_)
 refine C0 (A0 rfl) ?_ ?_
 ·intro h9
  have k9 := of_decide_eq_true h9; try simp only [A6] at k9
  have hlt : i < l.length := by omega
  obtain ⟨x, hx⟩ := get_some hlt
  have hxg := hg x (H5 hx)
  refine C1 (A3 (C3 (A3 (A2 ?_))))
  refine A1 rfl (I8 rfl I4 I0 (A0 rfl) (A0 rfl) hx (by first | omega | (simp only [D3, B0, szR] at *; omega))) ?_
  refine A1 rfl (H0 rfl (A0 rfl) N3 I0) ?_
  refine I2 rfl rfl rfl rfl Tryz.zeroValue43 rfl ?_
  intro b5
  refine G9 0 rfl rfl rfl (A0 rfl) (A0 rfl) (I7 _) rfl I0 rfl ?_
  refine A4 (A2 ?_)
  refine A5 rfl ?_
  refine A1 rfl (L5 0 rfl (A0 rfl) rfl N3 I0 rfl) ?_
  refine A1 rfl (D8 rfl Tryz.call85 rfl (Ag3 x hxg) (A8 (A0 rfl) C8)) ?_
  refine A1 rfl (w_min rfl (A0 rfl) (A0 rfl)) ?_
  refine B1 rfl ?_
  refine A4 (A2 ?_)
  refine A1 rfl (E9 rfl (A0 rfl) B4 (by first | omega | (simp only [D3, B0, szR] at *; omega))) ?_
  refine A5 rfl ?_
  refine A4 ?_
  refine H6 i (i + 1) ?_ ?_ (Le.trans (P2 [0] rfl) (S8 1 (by rfl) ⟨(congrArg (fun z => some (AV.int z)) (by rw [AX4 hx, min_if])), rfl, rfl, rfl, rfl, trivial⟩))
  ·exact (by omega)
  omega
 intro h9
 have k9 := of_decide_eq_false h9; try simp only [A6] at k9
 have hge : l.length ≤ i := by omega
 rw [List.take_of_length_le hge]
 refine F1 ?_
 refine A3 (A2 ?_)
 refine A5 rfl ?_
 refine B1 rfl ?_
 refine A4 ?_
 refine B8 ?_
 exact E4 rfl (B7 rfl (by rfl))
theorem Ag8 (l : List TState) (hs : ∀ s ∈ l, s.size ≤ 1048576) : FSpec Tryz.prog 10 [AV.list 4 (l.map TState.cs)] (AV.tup [AV.int (sureR l).1, AV.bool (sureR l).2]) := by
 refine D0 Tryz.func10 rfl Tryz.ntmps10 rfl ?_
 refine M6 (t := 0) rfl fun hl => ?_
 try simp only [A6] at hl
 refine A3 (A2 ?_)
 refine A1 rfl (A7 rfl B4) ?_
 refine A1 rfl (A7 rfl E2) ?_
 refine A4 (A3 (A2 ?_))
 refine A1 rfl (A7 rfl B4) ?_
 refine A4 (A3 (A3 (A2 ?_)))
 refine A1 rfl (A7 rfl B4) ?_
 refine A4 (C3 ?_)
 refine G4 [(0, _)] _ (fun (i : Nat) => i ≤ l.length ∧ ∀ s ∈ l.take i, goodState s = true) (fun (i : Nat) => []) (fun (i : Nat) => [(4, AV.int (sureL (l.take i))), (5, AV.int i)]) (fun (i : Nat) => l.length - i) (0) ?_ (J9 (by rfl) ⟨rfl, rfl, rfl, trivial⟩) ?_
 ·exact ⟨Nat.zero_le _, fun s hs => by cases hs⟩
 intro i hinv
 refine A3 (A3 (A2 ?_))
 refine A5 rfl ?_
 refine A5 rfl ?_
 refine A1 rfl (E7 rfl I4 (A0 rfl)) ?_
 refine A1 rfl (F7 rfl (A0 rfl) (A0 rfl)) ?_
 refine A4 ?_
 refine C0 (A0 rfl) ?_ ?_
 ·intro h11
  have k11 := of_decide_eq_true h11; try simp only [A6] at k11
  have hlt : i < l.length := by (simpa using h11)
  obtain ⟨x, hx⟩ := get_some hlt
  have hxm := H5 hx
  have hxs := hs x hxm
  refine C1 (A3 (C3 (A3 (A2 ?_))))
  refine A5 rfl ?_
  refine A5 rfl ?_
  refine A1 rfl (I8 rfl I4 I0 (A0 rfl) (A0 rfl) hx (by first | omega | (simp only [D3, B0, szR] at *; omega))) ?_
  refine A1 rfl (H0 rfl (A0 rfl) N3 I0) ?_
  refine A1 rfl (D8 rfl Tryz.call37 rfl (AQ2 x hxs) (A8 (A0 rfl) C8)) ?_
  refine A5 rfl ?_
  refine A1 rfl (K3 rfl (A0 rfl) rfl) ?_
  refine A1 rfl (K3 rfl (A0 rfl) rfl) ?_
  refine B1 rfl ?_
  refine B1 rfl ?_
  refine A4 (A3 (A3 (A2 ?_)))
  refine A5 rfl ?_
  refine A1 rfl (J3 rfl (A0 rfl)) ?_
  refine A4 ?_
  refine C0 (A0 rfl) ?_ ?_
  ·intro h23
   have hxb : goodState x = false := (by unfold settledR at h23; cases hb : goodState x with | false => rfl | true => (rw [hb] at h23; simp at h23))
   have he : sureR l = (0, false) := (by unfold sureR; rw [if_neg (by rw [Ar9 hxm hxb]; decide)])
   rw [he]
   refine A3 (A2 ?_)
   refine A1 rfl (A7 rfl B4) ?_
   refine A1 rfl (A7 rfl E2) ?_
   refine A4 ?_
   refine B8 ?_
   exact g9 rfl (by decide) (J2 (B7 rfl (by rfl)) (J2 (B7 rfl (by rfl)) R6))
  intro h23
  have hxg : goodState x = true := (by unfold settledR at h23; cases hb : goodState x with | true => rfl | false => (rw [hb] at h23; simp at h23))
  have hsr : settledR x = (settled x, true) := if_pos hxg
  rw [hsr]
  refine C1 (A2 ?_)
  refine A5 rfl ?_
  refine A5 rfl ?_
  refine A1 rfl (D8 rfl Tryz.call38 rfl (AH2 _ _) (A8 (A0 rfl) (A8 (A0 rfl) C8))) ?_
  refine B1 rfl ?_
  refine A4 (A2 ?_)
  refine A5 rfl ?_
  refine A1 rfl (E9 rfl (A0 rfl) B4 (by first | omega | (simp only [D3, B0, szR] at *; omega))) ?_
  refine B1 rfl ?_
  refine A4 ?_
  refine H6 i (i + 1) ?_ ?_ (J9 (by rfl) ⟨(congrArg (fun z => some (AV.int z)) (by rw [AX4 hx, Aw7])), rfl, rfl, trivial⟩)
  ·exact ⟨by omega, fun q hq => by (rw [List.take_add_one, hx] at hq; rcases List.mem_append.1 hq with hq | hq; (exact hinv.2 q hq); (simp at hq; rw [hq]; exact hxg))⟩
  omega
 intro h11
 have k11 := of_decide_eq_false h11; try simp only [A6] at k11
 have hge : l.length ≤ i := by (simpa using h11)
 have hall : ∀ s ∈ l, goodState s = true := fun s hm => hinv.2 s (by rw [List.take_of_length_le hge]; exact hm)
 rw [List.take_of_length_le hge]
 refine F1 ?_
 refine A3 (A3 (A2 ?_))
 refine A5 rfl ?_
 refine A1 rfl (E7 rfl I4 (A0 rfl)) ?_
 refine A1 rfl (D8 rfl Tryz.call39 rfl (R9 _ _ _) (A8 (A0 rfl) (A8 B4 (A8 B4 C8)))) ?_
 refine A1 rfl (J3 rfl (A0 rfl)) ?_
 refine A4 ?_
 refine C0 (A0 rfl) ?_ ?_
 ·intro h30
  have he : sureR l = (0, false) := (by unfold sureR; rw [if_neg (by unfold areStates; simp only [A6] at h30; simp_all)])
  rw [he]
  refine A3 (A2 ?_)
  refine A1 rfl (A7 rfl B4) ?_
  refine A1 rfl (A7 rfl E2) ?_
  refine A4 ?_
  refine B8 ?_
  exact g9 rfl (by decide) (J2 (B7 rfl (by rfl)) (J2 (B7 rfl (by rfl)) R6))
 intro h30
 have he : sureR l = (sureL l, true) := (by unfold sureR; rw [if_pos (by unfold areStates; rw [List.all_eq_true.2 hall, Bool.and_true]; simpa using h30)])
 rw [he]
 refine C1 (A3 (A2 ?_))
 refine A5 rfl ?_
 refine B1 rfl ?_
 refine A1 rfl (A7 rfl E2) ?_
 refine A4 ?_
 refine B8 ?_
 exact g9 rfl (by decide) (J2 (B7 rfl (by rfl)) (J2 (B7 rfl (by rfl)) R6))
end Go.Proofs.YtkegepoihkhihaaGreat

set_option maxHeartbeats 1000000
namespace Go.Proofs.YtkegepoihkhihaaGreat
open Go Go.AV Go.M
attribute [local irreducible] OpW OpA OpS AWP FSpec ESpec GSpec OpE RetOk RetOkG RvDen Le Ev GuardIs SrcIs
theorem AD3 (x y : TFeedItem) : (x.Time == y.Time && (x.Group == y.Group && (x.Key == y.Key && (x.Val == y.Val && (x.Gone == y.Gone && true))))) = decide (x = y) := by
  cases x; cases y
  rw [Bool.eq_iff_iff]
  simp
end Go.Proofs.YtkegepoihkhihaaGreat

set_option linter.unusedSectionVars false
namespace Go.M
open Go.AV
section
variable {α : Type} [Inhabited α]
structure Rot (l t : List α) (a m b : Nat) : Prop where
  out : ∀ k, k < a ∨ b ≤ k → t[k]? = l[k]?
  fst : ∀ k, k < b - m → t[a + k]? = l[m + k]?
  snd : ∀ k, k < m - a → t[a + (b - m) + k]? = l[a + k]?
end
end Go.M

namespace Go.M
open Go.AV
section
variable {α : Type} [Inhabited α] {lt : α → α → Bool}
section
variable {l t : List α} {a p m q b c : Nat}
end
end
end Go.M

namespace Go.M
open Go.AV
section
variable {α : Type} [Inhabited α] {lt : α → α → Bool}
end
end Go.M

namespace Go.M
open Go.AV
section
variable {α : Type} [Inhabited α] {lt : α → α → Bool}
end
end Go.M

namespace Go.Proofs.YtkegepoihkhihaaGreat
open Go Go.AV Go.M
attribute [local irreducible] OpW OpA OpS AWP FSpec ESpec GSpec OpE RetOk RetOkG RvDen Le Ev GuardIs SrcIs Int.tmod Int.tdiv IntKind.wrap
end Go.Proofs.YtkegepoihkhihaaGreat

namespace Go.Proofs.YtkegepoihkhihaaGreat
open Go Go.AV Go.M
attribute [local irreducible] OpW OpA OpS AWP FSpec ESpec GSpec OpE RetOk RetOkG RvDen Le Ev GuardIs SrcIs Int.tmod Int.tdiv IntKind.wrap
end Go.Proofs.YtkegepoihkhihaaGreat

namespace Go.Proofs.YtkegepoihkhihaaGreat
open Go Go.AV Go.M
attribute [local irreducible] OpW OpA OpS AWP FSpec ESpec GSpec OpE RetOk RetOkG RvDen Le Ev GuardIs SrcIs Int.tmod Int.tdiv IntKind.wrap
end Go.Proofs.YtkegepoihkhihaaGreat

namespace Go.Proofs.YtkegepoihkhihaaGreat
open Go Go.AV Go.M
attribute [local irreducible] OpW OpA OpS AWP FSpec ESpec GSpec OpE RetOk RetOkG RvDen Le Ev GuardIs SrcIs
theorem AX5 (l : List TFeedItem) (k : Nat) (x : TFeedItem) : (l.take k ++ x :: l.drop k).map TFeedItem.cs = ([] ++ (l.map TFeedItem.cs).take (k : Int).toNat ++ [x.cs]) ++ (l.map TFeedItem.cs).drop (k : Int).toNat := by simp
theorem AQ7 (v : Value) (l : List TFeedItem) (x : TFeedItem) (hl : l.length ≤ 2097152) : GSpec Tryz.prog 69 [AV.is v, AV.agg x.cs] [.arr v 63 5 (l.map TFeedItem.cs)]
   (fun _ : Value => True) (fun v' => [.arr v' 63 5 ((putR l x).1.map TFeedItem.cs)]) (fun v' => AV.tup [AV.is v', AV.bool (putR l x).2]) := by
 refine K4 Tryz.func69 rfl Tryz.ntmps69 rfl ?_
 refine A3 (A2 ?_)
 refine I6 rfl rfl rfl rfl (A0 rfl) ?_
 intro b3
 refine A1 rfl (A7 rfl S0) ?_
 refine A1 rfl (A7 rfl E2) ?_
 refine A4 (A3 (A2 ?_))
 refine A1 rfl (A7 rfl B4) ?_
 refine A4 (A3 (C3 ?_))
 refine G4 [(0, _), (3, _), (4, _), (5, _)] _ (fun (k : Nat) => k ≤ l.length ∧ ∀ i y, i < k → l[i]? = some y → l23Ahead y x = true) (fun (k : Nat) => []) (fun (k : Nat) => [(6, AV.int k)]) (fun (k : Nat) => l.length - k) (0) ?_ (G6 ⟨rfl, rfl, rfl, rfl, rfl, trivial⟩) ?_
 ·exact ⟨Nat.zero_le _, fun i y h => by omega⟩
 intro k hinv
 obtain ⟨y, hy0⟩ := AA7 l k
 refine A3 (A3 ?_)
 refine H7 (by kernel_rfl) (by kernel_rfl) rfl ?_
 refine B3 rfl rfl (C4 rfl (A0 rfl)) ?_
 refine B3 rfl rfl (C4 rfl (A0 rfl)) ?_
 refine B3 rfl rfl (V3 1 rfl E5 (A0 rfl) rfl) ?_
 refine B3 rfl rfl (F7 rfl (A0 rfl) (A0 rfl)) ?_
 refine B3 rfl rfl (C4 rfl (A0 rfl)) ?_
 refine D7 rfl (O9 rfl rfl rfl) (fun hc => C4 rfl (A0 rfl)) ?_
 refine D7 rfl (O9 rfl rfl rfl) (fun hc => C4 rfl (A0 rfl)) ?_
 refine D7 rfl (O9 rfl rfl rfl) (fun hc => K9 1 rfl E5 G0 (A9 rfl hc) rfl (A9 rfl hc) (by omega) (by have := of_decide_eq_true hc; simpa using this)) ?_
 refine D7 rfl (O9 rfl rfl rfl) (fun hc => AI2 1 rfl (A9 rfl hc) rfl P6 G0 (by have h9 := of_decide_eq_true hc; simp only [Int.toNat_natCast, List.getElem?_map]; rw [hy0 (by simpa using h9)]; rfl) (by decide)) ?_
 refine D7 rfl (O9 rfl rfl rfl) (fun hc => L5 0 rfl (A0 rfl) rfl P6 G0 rfl) ?_
 refine D7 rfl (O9 rfl rfl rfl) (fun hc => D8 rfl Tryz.call109 rfl (q8 _ _) (A8 (A9 rfl hc) (A8 (A9 rfl hc) C8))) ?_
 refine B3 rfl rfl (I1 rfl (A0 rfl) (F6 rfl)) ?_
 refine O4 ?_
 refine C0 (A0 rfl) ?_ ?_
 ·intro h18
  have hkt : k < l.length ∧ l23Ahead y x = true := by simpa using h18
  refine C1 (C3 (A2 ?_))
  refine A5 rfl ?_
  refine A1 rfl (E9 rfl (A0 rfl) B4 (by first | omega | (simp only [D3, B0, szR] at *; omega))) ?_
  refine B1 rfl ?_
  refine A4 ?_
  refine l5 ?_
  refine H6 k (k + 1) ?_ ?_ (G6 ⟨rfl, rfl, rfl, rfl, rfl, trivial⟩)
  ·exact ⟨by have := hkt.1; omega, fun i z hi hz => if e : i = k then (by subst e; rw [hy0 hkt.1] at hz; injection hz with hz; subst hz; exact hkt.2) else hinv.2 i z (by omega) hz⟩
  omega
 intro h18
 have hng : k < l.length → l23Ahead y x = false := fun h => by simpa [h] using h18
 refine F1 ?_
 refine A3 (A3 ?_)
 refine H7 (by kernel_rfl) (by kernel_rfl) rfl ?_
 refine B3 rfl rfl (C4 rfl (A0 rfl)) ?_
 refine B3 rfl rfl (C4 rfl (A0 rfl)) ?_
 refine B3 rfl rfl (V3 1 rfl E5 (A0 rfl) rfl) ?_
 refine B3 rfl rfl (F7 rfl (A0 rfl) (A0 rfl)) ?_
 refine B3 rfl rfl (C4 rfl (A0 rfl)) ?_
 refine D7 rfl (O9 rfl rfl rfl) (fun hc => L5 0 rfl (A0 rfl) rfl P6 G0 rfl) ?_
 refine D7 rfl (O9 rfl rfl rfl) (fun hc => C4 rfl (A0 rfl)) ?_
 refine D7 rfl (O9 rfl rfl rfl) (fun hc => C4 rfl (A0 rfl)) ?_
 refine D7 rfl (O9 rfl rfl rfl) (fun hc => K9 1 rfl E5 G0 (A9 rfl hc) rfl (A9 rfl hc) (by omega) (by have := of_decide_eq_true hc; simpa using this)) ?_
 refine D7 rfl (O9 rfl rfl rfl) (fun hc => AI2 1 rfl (A9 rfl hc) rfl P6 G0 (by have h9 := of_decide_eq_true hc; simp only [Int.toNat_natCast, List.getElem?_map]; rw [hy0 (by simpa using h9)]; rfl) (by decide)) ?_
 refine D7 rfl (O9 rfl rfl rfl) (fun hc => D8 rfl Tryz.call109 rfl (q8 _ _) (A8 (A9 rfl hc) (A8 (A9 rfl hc) C8))) ?_
 refine D7 rfl (O9 rfl rfl rfl) (fun hc => J3 rfl (A9 rfl hc)) ?_
 refine B3 rfl rfl (I1 rfl (A0 rfl) (F6 rfl)) ?_
 refine O4 ?_
 refine C0 (A0 rfl) ?_ ?_
 ·intro h33
  have hk2 : k < l.length ∧ l23Ahead x y = false := by simpa using h33
  rw [Au7 hinv.1 hinv.2 (hy0 hk2.1) hk2.2 (hng hk2.1)]
  refine A3 ?_
  refine H7 (by kernel_rfl) (by kernel_rfl) rfl ?_
  refine B3 rfl rfl (C4 rfl (A0 rfl)) ?_
  refine B3 rfl rfl (C4 rfl (A0 rfl)) ?_
  refine B3 rfl rfl (C4 rfl (A0 rfl)) ?_
  refine B3 rfl rfl (K9 1 rfl E5 G0 (A0 rfl) rfl (A0 rfl) (by omega) (by simp only [A6]; omega)) ?_
  refine B3 rfl rfl (AI2 1 rfl (A0 rfl) rfl P6 G0 (by simp only [Int.toNat_natCast, List.getElem?_map]; rw [hy0 hk2.1]; rfl) (by decide)) ?_
  refine B3 rfl rfl (L5 0 rfl (A0 rfl) rfl P6 G0 rfl) ?_
  refine B3 rfl rfl (w_aeql rfl F4 (by kernel_rfl) (by kernel_rfl) (A0 rfl) (A0 rfl) (t6 (by kernel_rfl) D1 rfl rfl (Am7 T6) (t6 (by kernel_rfl) D1 rfl rfl (Am7 T6) (t6 (by kernel_rfl) E6 rfl rfl (Am8 J0) (t6 (by kernel_rfl) E6 rfl rfl (Am8 J0) (t6 (by kernel_rfl) I9 rfl rfl (eqf_bool O6) eqf_nil)))))) ?_
  refine B3 rfl rfl (A7 rfl (A0 rfl)) ?_
  refine B3 rfl rfl (A7 rfl (A0 rfl)) ?_
  refine O4 ?_
  refine B8 ?_
  exact U7 [1] v (trivial) rfl (by first | rfl | exact congrArg (fun z => [Own.arr _ 63 5 z]) (AX5 _ _ _)) (AC0 rfl (by decide) (J2 (B7 rfl (by first | rfl | exact congrArg AV.bool (AD3 _ _))) (J2 (B7 rfl (by first | rfl | exact congrArg AV.bool (AD3 _ _))) R6)))
 intro h33
 rw [putR_end hinv.1 hinv.2 (fun z hz => by (have h7 := (List.getElem?_eq_some_iff.1 hz).1; rw [hy0 h7] at hz; injection hz with hz; subst hz; simpa [h7] using h33)) (fun z hz => by (have h7 := (List.getElem?_eq_some_iff.1 hz).1; rw [hy0 h7] at hz; injection hz with hz; subst hz; exact hng h7))]
 refine C1 (A3 ?_)
 refine AR6 _ [(1, false), (2, false), (3, false), (5, false), (6, false), (8, false), (9, false), (10, false), (0, true), (4, true), (7, true), (11, true)] (by kernel_rfl) (by kernel_rfl) rfl At8 ?_
 refine d6 rfl rfl rfl (fun ext => C4 rfl (A0 rfl)) ?_
 refine d6 rfl rfl rfl (fun ext => C4 rfl (A0 rfl)) ?_
 refine d6 rfl rfl rfl (fun ext => w_ahiT 1 rfl E5 G0 (A0 rfl) rfl (A0 rfl) (by omega) (by simp only [A6]; omega)) ?_
 refine d6 rfl rfl rfl (fun ext => L5 0 rfl (A0 rfl) rfl P6 G0 rfl) ?_
 refine d6 rfl rfl rfl (fun ext => W4 rfl E5 G0 Tryz.zeroValue63 rfl rfl rfl rfl (M8 (A0 rfl) (I7 _) S7) rfl rfl) ?_
 refine d6 rfl rfl rfl (fun ext => C4 rfl (A0 rfl)) ?_
 refine d6 rfl rfl rfl (fun ext => C4 rfl (A0 rfl)) ?_
 refine d6 rfl rfl rfl (fun ext => Aa6 1 rfl E5 G0 (A0 rfl) rfl (A0 rfl) (by omega) (by simp only [A6]; omega)) ?_
 refine AN9 rfl rfl rfl (Au0 rfl E5 G0) (fun a _ => (by first | exact c5 rfl | exact c5 (List.append_assoc _ _ _) | exact t8)) ?_
 intro v41 _
 refine AN9 rfl rfl rfl (AK0 (by' := 56) 2 rfl E5 Tryz.type63 rfl rfl rfl rfl rfl rfl (A0 rfl) (Aw0 1 rfl (A0 rfl) (by simp only [A6, Int.toNat_natCast]; omega)) rfl (by simp only [X1, List.nil_append, I5, F8, List.length_drop, A6, K0, B0]; omega)) (fun a _ => (by first | exact c5 rfl | exact c5 (List.append_assoc _ _ _) | exact t8)) ?_
 intro v45_1 _
 refine AN9 rfl rfl rfl (Ap4 (by' := 56) 2 rfl E5 Tryz.type63 rfl rfl rfl rfl rfl rfl (A0 rfl) (A0 rfl) rfl (by simp only [X1, List.nil_append, I5, F8, List.length_drop, A6, K0, B0]; omega)) (fun a _ => (by first | exact c5 rfl | exact c5 (List.append_assoc _ _ _) | exact t8)) ?_
 intro v48_2 _
 refine AN9 rfl rfl rfl (AK0 (by' := 56) 2 rfl E5 Tryz.type63 rfl rfl rfl rfl rfl rfl (A0 rfl) (Av9 1 rfl (A0 rfl) (by simp only [A6, Int.toNat_natCast]; omega)) rfl (by simp only [X1, List.nil_append, I5, F8, List.length_drop, A6, K0, B0]; omega)) (fun a _ => (by first | exact c5 rfl | exact c5 (List.append_assoc _ _ _) | exact t8)) ?_
 intro v52_3 _
 refine bc_nil ?_
 refine B1 rfl ?_
 refine A1 rfl (A7 rfl E2) ?_
 refine A4 ?_
 refine B8 ?_
 exact U7 [2] v52_3 (trivial) rfl (by first | rfl | exact congrArg (fun z => [Own.arr _ 63 5 z]) (AX5 _ _ _)) (AC0 rfl (by decide) (J2 (B7 rfl (by first | rfl | exact congrArg AV.bool (AD3 _ _))) (J2 (B7 rfl (by first | rfl | exact congrArg AV.bool (AD3 _ _))) R6)))

theorem As0 (a b : List TFeedItem) (hsa : sizeL TFeedItem.size a ≤ 1048576) (hsb : sizeL TFeedItem.size b ≤ 1048576) : GSpec Tryz.prog 31 [AV.list 5 (a.map TFeedItem.cs), AV.list 5 (b.map TFeedItem.cs)] []
   (fun _ : Value => True) (fun v' => [.arr v' 63 5 ((mergeF a b).1.map TFeedItem.cs)]) (fun v' => AV.tup [AV.is v', AV.bool (mergeF a b).2]) := by
 have hal : a.length ≤ 1048576 := Nat.le_trans L4 hsa
 have hbl : b.length ≤ 1048576 := Nat.le_trans L4 hsb
 refine K4 Tryz.func31 rfl Tryz.ntmps31 rfl ?_
 refine A3 (A2 ?_)
 refine A1 rfl (A7 rfl S0) ?_
 refine A1 rfl (A7 rfl E2) ?_
 refine A4 (A3 (A3 (A2 ?_)))
 refine A5 rfl ?_
 refine A1 rfl (D8 rfl Tryz.call68 rfl (AF9 _ (by assumption)) (A8 (A0 rfl) C8)) ?_
 refine A1 rfl (J3 rfl (A0 rfl)) ?_
 refine A5 rfl ?_
 refine I3 rfl (fun hc => C4 rfl (A0 rfl)) ?_
 refine I3 rfl (fun hc => D8 rfl Tryz.call68 rfl (AF9 _ (by assumption)) (A8 (A9 rfl hc) C8)) ?_
 refine I3 rfl (fun hc => J3 rfl (A9 rfl hc)) ?_
 refine A1 rfl (P4 rfl (A0 rfl) (F6 rfl)) ?_
 refine A4 ?_
 refine C0 (A0 rfl) ?_ ?_
 ·intro h17
  have hno : mergeF a b = ([], false) := if_neg (by intro h; rw [h.1, h.2] at h17; cases h17)
  rw [hno]
  refine A3 (A2 ?_)
  refine T2 rfl rfl rfl rfl E5 G0 ?_
  intro v18
  refine B1 rfl ?_
  refine A1 rfl (A7 rfl E2) ?_
  refine A4 ?_
  refine B8 ?_
  exact U7 [0] v18 (trivial) rfl (by rfl) (AC0 rfl (by decide) (J2 (B7 rfl (by first | rfl | (refine congrArg AV.bool ?_; simp_all; done))) (J2 (B7 rfl (by first | rfl | (refine congrArg AV.bool ?_; simp_all; done))) R6)))
 intro h17
 have hgd : l23Feed a = true ∧ l23Feed b = true := by simpa using h17
 refine C1 (A3 (A2 ?_))
 refine T2 rfl rfl rfl rfl E5 G0 ?_
 intro v19
 refine A5 rfl ?_
 refine U6 (by' := 56) 0 rfl rfl rfl rfl E5 Tryz.type63 rfl rfl rfl rfl rfl rfl (A0 rfl) (A0 rfl) rfl (by first | omega | (simp only [D3, B0, szR] at *; omega)) ?_
 intro v21_1
 refine B1 rfl ?_
 refine A4 (A3 (A3 (A2 ?_)))
 refine A1 rfl (A7 rfl B4) ?_
 refine A4 (C3 ?_)
 refine Y3 [(1, _)] _ (fun (i : Nat) (v : Value) (o : List TFeedItem) => i ≤ b.length ∧ mergeAll a b = mergeAll o (b.drop i) ∧ o.length ≤ a.length + i) (fun (i : Nat) (v : Value) (o : List TFeedItem) => [.arr v 63 5 (o.map TFeedItem.cs)]) (fun (i : Nat) (v : Value) (o : List TFeedItem) => [(6, AV.is v), (7, AV.int i)]) (fun (i : Nat) (v : Value) (o : List TFeedItem) => b.length - i) (0) (v21_1) (a) ?_ (J9 (by rfl) ⟨rfl, rfl, rfl, trivial⟩) ?_
 ·exact ⟨Nat.zero_le _, rfl, Nat.le_refl _⟩
 intro i v o hinv
 refine A3 (A3 (A2 ?_))
 refine A5 rfl ?_
 refine A5 rfl ?_
 refine A1 rfl (E7 rfl E5 (A0 rfl)) ?_
 refine A1 rfl (F7 rfl (A0 rfl) (A0 rfl)) ?_
 refine A4 ?_
 refine C0 (A0 rfl) ?_ ?_
 ·intro h25
  have k25 := of_decide_eq_true h25; try simp only [A6] at k25
  have hlt : i < b.length := by omega
  obtain ⟨x, hx⟩ := get_some hlt
  refine C1 (A3 (C3 (A3 (A2 ?_))))
  refine A5 rfl ?_
  refine A5 rfl ?_
  refine A5 rfl ?_
  refine A1 rfl (I8 rfl E5 G0 (A0 rfl) (A0 rfl) hx (by first | omega | (simp only [D3, B0, szR] at *; omega))) ?_
  refine A1 rfl (H0 rfl (A0 rfl) P6 G0) ?_
  refine S9 [0] rfl rfl rfl rfl Tryz.call69 rfl (AQ7 v o x (by omega)) (A8 (A0 rfl) (A8 (A0 rfl) C8)) rfl ?_
  intro x34 ok34
  refine A5 rfl ?_
  refine A1 rfl (K3 rfl (A0 rfl) rfl) ?_
  refine A1 rfl (K3 rfl (A0 rfl) rfl) ?_
  refine B1 rfl ?_
  refine B1 rfl ?_
  refine A4 (A3 (A3 (A2 ?_)))
  refine A5 rfl ?_
  refine A1 rfl (J3 rfl (A0 rfl)) ?_
  refine A4 ?_
  refine C0 (A0 rfl) ?_ ?_
  ·intro h38
   have hno : mergeF a b = ([], false) := by (unfold mergeF; rw [if_pos hgd, AY3 hinv.2.1 hx (by simpa using h38)])
   rw [hno]
   refine A3 (A2 ?_)
   refine T2 rfl rfl rfl rfl E5 G0 ?_
   intro v39
   refine B1 rfl ?_
   refine A1 rfl (A7 rfl E2) ?_
   refine A4 ?_
   refine B8 ?_
   exact U7 [0] v39 (trivial) rfl (by rfl) (AC0 rfl (by decide) (J2 (B7 rfl (by first | rfl | (refine congrArg AV.bool ?_; simp_all; done))) (J2 (B7 rfl (by first | rfl | (refine congrArg AV.bool ?_; simp_all; done))) R6)))
  intro h38
  refine C1 (A2 ?_)
  refine A5 rfl ?_
  refine B1 rfl ?_
  refine A4 (A2 ?_)
  refine A5 rfl ?_
  refine A1 rfl (E9 rfl (A0 rfl) B4 (by first | omega | (simp only [D3, B0, szR] at *; omega))) ?_
  refine B1 rfl ?_
  refine A4 ?_
  refine Y0 i v o (i + 1) (x34) ((putR o x).1) ?_ ?_ (J9 (by rfl) ⟨rfl, rfl, rfl, trivial⟩)
  ·exact ⟨by omega, AY2 hinv.2.1 hx (by simpa using h38), by have := AC7 x o; omega⟩
  omega
 intro h25
 have k25 := of_decide_eq_false h25; try simp only [A6] at k25
 have hme := Ad1 hinv.2.1 (show b.length ≤ i by omega)
 refine F1 ?_
 refine A3 (A3 (A2 ?_))
 refine A5 rfl ?_
 refine A1 rfl (V3 0 rfl E5 (A0 rfl) rfl) ?_
 refine A1 rfl (S4 rfl (A0 rfl) B4) ?_
 refine A4 ?_
 refine C0 (A0 rfl) ?_ ?_
 ·intro h43
  have k43 := of_decide_eq_true h43; try simp only [A6] at k43
  have hno : mergeF a b = ([], false) := by (unfold mergeF; rw [if_pos hgd, hme]; exact if_pos (by omega))
  rw [hno]
  refine A3 (A2 ?_)
  refine T2 rfl rfl rfl rfl E5 G0 ?_
  intro v44
  refine B1 rfl ?_
  refine A1 rfl (A7 rfl E2) ?_
  refine A4 ?_
  refine B8 ?_
  exact U7 [0] v44 (trivial) rfl (by rfl) (AC0 rfl (by decide) (J2 (B7 rfl (by first | rfl | (refine congrArg AV.bool ?_; simp_all; done))) (J2 (B7 rfl (by first | rfl | (refine congrArg AV.bool ?_; simp_all; done))) R6)))
 intro h43
 have k43 := of_decide_eq_false h43; try simp only [A6] at k43
 have hyes : mergeF a b = (o, true) := by (unfold mergeF; rw [if_pos hgd, hme]; exact if_neg (by omega))
 rw [hyes]
 refine C1 (A3 (A2 ?_))
 refine A5 rfl ?_
 refine B1 rfl ?_
 refine A1 rfl (A7 rfl E2) ?_
 refine A4 ?_
 refine B8 ?_
 exact U7 [0] v (trivial) rfl (by rfl) (AC0 rfl (by decide) (J2 (B7 rfl (by first | rfl | (refine congrArg AV.bool ?_; simp_all; done))) (J2 (B7 rfl (by first | rfl | (refine congrArg AV.bool ?_; simp_all; done))) R6)))
end Go.Proofs.YtkegepoihkhihaaGreat

set_option maxHeartbeats 2000000
namespace Go.M
open Go.AV
theorem AH4 {α : Type} {p : α → Bool} {l : List α} {i : Nat} {x : α} (h : l[i]? = some x) : (l.take (i + 1)).filter p = (l.take i).filter p ++ (if p x = true then [x] else []) := by
  rw [List.take_add_one, h, List.filter_append]
  cases hp : p x <;> simp [hp]
theorem raw_take {l : List TCell} {i : Nat} {c : TCell} {g a u : Int} (h : l[i]? = some c) : rawItems (l.take (i + 1)) g a u = rawItems (l.take i) g a u ++ cellItems g a u c := by
  unfold rawItems; rw [List.take_add_one, h, List.map_append, List.flatten_append]; simp
def partItems (l : List TCell) (i : Nat) (c : TCell) (j : Nat) (g a u : Int) : List TFeedItem := rawItems (l.take i) g a u ++ ((c.Vers.take j).filter (inTime a u)).map (itemOf g c.Key)
theorem AH5 (l : List TCell) (i : Nat) (c : TCell) (g a u : Int) : partItems l i c 0 g a u = rawItems (l.take i) g a u := by unfold partItems; simp
theorem AX6 {l : List TCell} {i : Nat} {c : TCell} {g a u : Int} {j : Nat} (h : l[i]? = some c) (hj : c.Vers.length ≤ j) : partItems l i c j g a u = rawItems (l.take (i + 1)) g a u := by
  unfold partItems; rw [raw_take h, List.take_of_length_le hj]; rfl
theorem AD4 {l : List TCell} {i : Nat} {c : TCell} {g a u : Int} {j : Nat} {v : TVer} (h : c.Vers[j]? = some v) (hp : inTime a u v = true) : partItems l i c (j + 1) g a u = partItems l i c j g a u ++ [itemOf g c.Key v] := by
  unfold partItems; rw [AH4 h, if_pos hp, List.map_append, List.append_assoc]; rfl
theorem AI6 {l : List TCell} {i : Nat} {c : TCell} {g a u : Int} {j : Nat} {v : TVer} (h : c.Vers[j]? = some v) (hp : inTime a u v = false) : partItems l i c (j + 1) g a u = partItems l i c j g a u := by
  unfold partItems; rw [AH4 h, if_neg (by rw [hp]; decide), List.append_nil]
theorem AN0 {l : List TCell} (h : goodCells l = true) {i : Nat} {c : TCell} {g a u : Int} {j : Nat} (hj : j ≤ 16) : (partItems l i c j g a u).length ≤ 1000 := by
  obtain ⟨f1, f2, f3⟩ := Q3 h
  have h1 := AI5 (l := l.take i) (g := g) (a := a) (u := u) fun c hc => (f3 c (List.mem_of_mem_take hc)).2.2.1
  have h2 : ((c.Vers.take j).filter (inTime a u)).length ≤ j := Nat.le_trans (List.length_filter_le _ _) (List.length_take_le _ _)
  have h3 : (l.take i).length ≤ l.length := List.length_take_le' _ _
  unfold partItems
  rw [I5, A6]; omega
theorem AQ8 {o l : List TFeedItem} {x : TFeedItem} : M.insAll o (l ++ [x]) = (putR (M.insAll o l) x).1 := by unfold M.insAll; rw [List.foldl_append]; rfl
theorem AK5 : ∀ {l o : List TFeedItem}, (M.insAll o l).length ≤ o.length + l.length
  | [], o => Nat.le_refl _
  | x :: l, o => by
    have h1 := AK5 (l := l) (o := (putR o x).1)
    have h2 := AC7 x o
    show (M.insAll (putR o x).1 l).length ≤ _
    rw [K0]; omega
end Go.M
namespace Go.Proofs.YtkegepoihkhihaaGreat
open Go Go.AV Go.M
attribute [local irreducible] OpW OpA OpS AWP FSpec ESpec GSpec OpE RetOk RetOkG RvDen Le Ev GuardIs SrcIs SrcE Int.tmod IntKind.wrap bandI
theorem Al0 (s : TState) (g a u : Int) (hg : goodCells s.Cells = true) : GSpec Tryz.prog 53 [AV.agg s.cs, AV.int g, AV.int a, AV.int u] [] (fun _ : Value => True) (fun v => [.arr v 63 5 ((feedIn s.Cells g a u).map TFeedItem.cs)]) (fun v => AV.is v) := by
 obtain ⟨f1, f2, f3⟩ := Q3 hg
 refine K4 Tryz.func53 rfl Tryz.ntmps53 rfl ?_
 refine A3 (A2 ?_)
 refine I6 rfl rfl rfl rfl (A0 rfl) ?_
 intro b4
 refine A1 rfl (A7 rfl S0) ?_
 refine A4 (A3 (A2 ?_))
 refine T2 rfl rfl rfl rfl E5 G0 ?_
 intro v14
 refine B1 rfl ?_
 refine A4 (A3 (A3 (A2 ?_)))
 refine A1 rfl (B5 1 rfl E3 rfl L6 (A0 rfl) rfl) ?_
 refine A1 rfl (B2 1 rfl (A0 rfl) rfl O3 rfl) ?_
 refine A1 rfl (E7 rfl F3 (A0 rfl)) ?_
 refine A1 rfl (C4 rfl B4) ?_
 refine A4 (C3 ?_)
 refine AWP.le (P2 [0] rfl) ?_
 refine J7 [(1, _), (2, _), (3, _), (8, _), (16, _), (17, _)] _ (fun (i : Nat) (v : Value) => i ≤ s.Cells.length) (fun (i : Nat) (v : Value) => [.arr v 63 5 ((rawItems (s.Cells.take i) g a u).map TFeedItem.cs)]) (fun (i : Nat) (v : Value) => [(9, AV.is v), (18, AV.int i)]) (fun (i : Nat) (v : Value) => s.Cells.length - i) (0) (v14) ?_ (J9 (by rfl) ⟨rfl, rfl, rfl, rfl, rfl, rfl, rfl, rfl, trivial⟩) ?_
 ·exact Nat.zero_le _
 intro i v hinv
 refine A3 (A2 ?_)
 refine A1 rfl (F7 rfl (A0 rfl) (A0 rfl)) ?_
 refine A4 (A3 ?_)
 refine C0 (A0 rfl) ?_ ?_
 ·intro h19
  have k19 := of_decide_eq_true h19; try simp only [A6] at k19
  have hlt : i < s.Cells.length := by (simpa using h19)
  obtain ⟨c, hx⟩ := get_some hlt
  have hcf := f3 c (H5 hx)
  refine C1 (A3 (C3 (A3 (A2 ?_))))
  refine A1 rfl (I8 rfl F3 F2 (A0 rfl) (A0 rfl) hx (by first | omega | (simp only [D3, B0, szR] at *; omega))) ?_
  refine A1 rfl (H0 rfl (A0 rfl) O0 F2) ?_
  refine I2 rfl rfl rfl rfl Tryz.zeroValue125 rfl ?_
  intro b11
  refine G9 0 rfl rfl rfl (A0 rfl) (A0 rfl) (I7 _) rfl F2 rfl ?_
  refine A4 (A3 (A2 ?_))
  refine A1 rfl (B5 1 rfl F9 rfl L2 (A0 rfl) rfl) ?_
  refine A1 rfl (B2 0 rfl (A0 rfl) rfl O1 rfl) ?_
  refine A1 rfl (E7 rfl H4 (A0 rfl)) ?_
  refine A1 rfl (C4 rfl B4) ?_
  refine A4 (C3 ?_)
  refine AWP.le (P2 [1, 0] rfl) ?_
  refine J7 [(1, _), (2, _), (3, _), (8, _), (11, _), (16, _), (17, _), (18, _), (19, _), (20, _), (21, _), (22, _), (23, _), (24, _)] _ (fun (j : Nat) (w : Value) => j ≤ c.Vers.length) (fun (j : Nat) (w : Value) => [.arr w 63 5 ((partItems s.Cells i c j g a u).map TFeedItem.cs), .box b11 125 c.cs]) (fun (j : Nat) (w : Value) => [(9, AV.is w), (25, AV.int j)]) (fun (j : Nat) (w : Value) => c.Vers.length - j) (0) (v) ?_ (J9 (by (rw [AH5]; rfl)) ⟨rfl, rfl, rfl, rfl, rfl, rfl, rfl, rfl, rfl, rfl, rfl, rfl, rfl, rfl, rfl, rfl, trivial⟩) ?_
  ·exact Nat.zero_le _
  intro j w hinv
  refine A3 (A2 ?_)
  refine A1 rfl (F7 rfl (A0 rfl) (A0 rfl)) ?_
  refine A4 (A3 ?_)
  refine C0 (A0 rfl) ?_ ?_
  ·intro h26
   have k26 := of_decide_eq_true h26; try simp only [A6] at k26
   have hlt1 : j < c.Vers.length := by (simpa using h26)
   obtain ⟨y, hy⟩ := get_some hlt1
   have hpl := AN0 hg (i := i) (c := c) (g := g) (a := a) (u := u) (j := j) (by omega)
   refine C1 (A3 (C3 (A3 (A2 ?_))))
   refine A1 rfl (I8 rfl H4 J1 (A0 rfl) (A0 rfl) hy (by first | omega | (simp only [D3, B0, szR] at *; omega))) ?_
   refine A1 rfl (H0 rfl (A0 rfl) W0 J1) ?_
   refine I2 rfl rfl rfl rfl Tryz.zeroValue127 rfl ?_
   intro b13
   refine G9 0 rfl rfl rfl (A0 rfl) (A0 rfl) (I7 _) rfl J1 rfl ?_
   refine A4 (A3 (A2 ?_))
   refine A1 rfl (B5 0 rfl G2 rfl B9 (A0 rfl) rfl) ?_
   refine A1 rfl (B2 0 rfl (A0 rfl) rfl D1 rfl) ?_
   refine A5 rfl ?_
   refine A1 rfl (S4 rfl (A0 rfl) (A0 rfl)) ?_
   refine A5 rfl ?_
   refine D4 rfl (fun hc => B5 0 rfl G2 rfl B9 (A0 rfl) rfl) ?_
   refine D4 rfl (fun hc => B2 0 rfl (A9 rfl hc) rfl D1 rfl) ?_
   refine D4 rfl (fun hc => C4 rfl (A0 rfl)) ?_
   refine D4 rfl (fun hc => S3 rfl (A9 rfl hc) (A9 rfl hc)) ?_
   refine A1 rfl (I1 rfl (A0 rfl) (F6 rfl)) ?_
   refine A4 ?_
   refine C0 (A0 rfl) ?_ ?_
   ·intro h38
    refine A2 ?_
    refine A5 rfl ?_
    refine A1 rfl (B5 0 rfl G2 rfl B9 (A0 rfl) rfl) ?_
    refine A1 rfl (B2 0 rfl (A0 rfl) rfl D1 rfl) ?_
    refine A5 rfl ?_
    refine A1 rfl (B5 0 rfl F9 rfl D2 (A0 rfl) rfl) ?_
    refine A1 rfl (B2 2 rfl (A0 rfl) rfl E6 rfl) ?_
    refine A1 rfl (B5 1 rfl G2 rfl D2 (A0 rfl) rfl) ?_
    refine A1 rfl (B2 0 rfl (A0 rfl) rfl E6 rfl) ?_
    refine A1 rfl (B5 2 rfl G2 rfl G3 (A0 rfl) rfl) ?_
    refine A1 rfl (B2 0 rfl (A0 rfl) rfl I9 rfl) ?_
    refine A1 rfl (Z0 (places := #[(0, 1), (1, 1), (2, 1), (3, 1), (4, 1)]) rfl F4 Tryz.zeroValue63 (fun w => by kernel_rfl) rfl (M8 (A0 rfl) (P0 _ _) (M8 (A0 rfl) (P0 _ _) (M8 (A0 rfl) (S5 _) (M8 (A0 rfl) (S5 _) (M8 (A0 rfl) (f7 _) S7))))) rfl) ?_
    refine A1 rfl (W4 rfl E5 G0 Tryz.zeroValue63 rfl rfl rfl rfl (M8 (A0 rfl) (I7 _) S7) rfl rfl) ?_
    refine U6 (by' := 56) 1 rfl rfl rfl rfl E5 Tryz.type63 rfl rfl rfl rfl rfl rfl (A0 rfl) (A0 rfl) rfl (by simp only [A6, B0]; omega) ?_
    intro v51_1
    refine B1 rfl ?_
    refine A4 (A2 ?_)
    refine A1 rfl (E9 rfl (A0 rfl) B4 (by first | omega | (simp only [D3, B0, szR] at *; omega))) ?_
    refine A5 rfl ?_
    refine A4 ?_
    refine J5 j w (j + 1) (v51_1) ?_ ?_ (Le.trans (P2 [0, 0, 0] rfl) (S8 1 (by first | (rw [AD4 hy h38, List.map_append]; rfl) | (rw [AI6 hy h38]; rfl)) ⟨rfl, rfl, rfl, rfl, rfl, rfl, rfl, rfl, rfl, rfl, rfl, rfl, rfl, rfl, rfl, rfl, trivial⟩))
    ·exact (by omega)
    omega
   intro h38
   refine C1 (A2 ?_)
   refine A1 rfl (E9 rfl (A0 rfl) B4 (by first | omega | (simp only [D3, B0, szR] at *; omega))) ?_
   refine A5 rfl ?_
   refine A4 ?_
   refine J5 j w (j + 1) (w) ?_ ?_ (Le.trans (P2 [0, 0, 0] rfl) (S8 1 (by first | (rw [AD4 hy h38, List.map_append]; rfl) | (rw [AI6 hy h38]; rfl)) ⟨rfl, rfl, rfl, rfl, rfl, rfl, rfl, rfl, rfl, rfl, rfl, rfl, rfl, rfl, rfl, rfl, trivial⟩))
   ·exact (by omega)
   omega
  intro h26
  have k26 := of_decide_eq_false h26; try simp only [A6] at k26
  have hge1 : c.Vers.length ≤ j := by (simpa using h26)
  refine F1 ?_
  refine A2 ?_
  refine A1 rfl (E9 rfl (A0 rfl) B4 (by first | omega | (simp only [D3, B0, szR] at *; omega))) ?_
  refine A5 rfl ?_
  refine A4 ?_
  refine J5 i v (i + 1) (w) ?_ ?_ (Le.trans (P2 [1, 0] rfl) (S8 1 (by (rw [AX6 hx hge1]; rfl)) ⟨rfl, rfl, rfl, rfl, rfl, rfl, rfl, rfl, trivial⟩))
  ·exact (by omega)
  omega
 intro h19
 have k19 := of_decide_eq_false h19; try simp only [A6] at k19
 have hge : s.Cells.length ≤ i := by (simpa using h19)
 rw [List.take_of_length_le hge]
 refine F1 ?_
 refine A3 (A2 ?_)
 refine A5 rfl ?_
 refine p4 [0] rfl rfl rfl rfl Tryz.call63 rfl (AB1 v (rawItems s.Cells g a u) (by have h9 := AN0 hg (i := s.Cells.length) (c := ⟨[], []⟩) (g := g) (a := a) (u := u) (j := 0) (by omega); rw [AH5, List.take_of_length_le (Nat.le_refl _)] at h9; omega)) rfl (M5 (evb (A0 rfl)) (M5 (evb Am2) T4)) (by first | exact H1 | (intro _; exact H1) | (intro _; first | exact D5 _ | exact C7 _ _ | exact C2 _ | exact C9 _ | exact C6) | (intro _; refine T8 ?_; (repeat (first | exact C5 | (refine B6 (by first | (first | exact D5 _ | exact C7 _ _ | exact C2 _ | exact C9 _ | exact C6) | (refine N1 ?_; (repeat (first | exact C5 | (refine B6 (by first | exact D5 _ | exact C7 _ _ | exact C2 _ | exact C9 _ | exact C6) ?_))))) ?_))); done) | (intro _; refine N1 ?_; (repeat (first | exact C5 | (refine B6 (by first | exact D5 _ | exact C7 _ _ | exact C2 _ | exact C9 _ | exact C6) ?_))); done) | ((repeat (first | exact H1 | (refine G1 (L8 ?_) ?_; (repeat (first | exact C5 | (refine B6 (by first | exact D5 _ | exact C7 _ _ | exact C2 _ | exact C9 _ | exact C6) ?_)))) | (refine G1 (L9 ?_) ?_; (repeat (first | exact M0 | (refine M2 (fun _ => ?_); (first | exact TWrite.flat _ | exact TFeedItem.flat _ | exact TIdx.flat _ | exact TVer.flat _ | (repeat (first | exact C5 | (refine B6 (by first | exact D5 _ | exact C7 _ _ | exact C2 _ | exact C9 _ | exact C6) ?_))))) | (refine M3 ?_; (first | exact TWrite.flat _ | exact TFeedItem.flat _ | exact TIdx.flat _ | exact TVer.flat _ | (repeat (first | exact C5 | (refine B6 (by first | exact D5 _ | exact C7 _ _ | exact C2 _ | exact C9 _ | exact C6) ?_))))) | (refine K7 ?_ ?_; (first | exact TWrite.flat _ | exact TFeedItem.flat _ | exact TIdx.flat _ | exact TVer.flat _ | (repeat (first | exact C5 | (refine B6 (by first | exact D5 _ | exact C7 _ _ | exact C2 _ | exact C9 _ | exact C6) ?_))))) | refine M1 ?_ ?_))))); done) | (intro _; (repeat (first | exact H1 | (refine G1 (L8 ?_) ?_; (repeat (first | exact C5 | (refine B6 (by first | exact D5 _ | exact C7 _ _ | exact C2 _ | exact C9 _ | exact C6) ?_)))) | (refine G1 (L9 ?_) ?_; (repeat (first | exact M0 | (refine M2 (fun _ => ?_); (first | exact TWrite.flat _ | exact TFeedItem.flat _ | exact TIdx.flat _ | exact TVer.flat _ | (repeat (first | exact C5 | (refine B6 (by first | exact D5 _ | exact C7 _ _ | exact C2 _ | exact C9 _ | exact C6) ?_))))) | (refine M3 ?_; (first | exact TWrite.flat _ | exact TFeedItem.flat _ | exact TIdx.flat _ | exact TVer.flat _ | (repeat (first | exact C5 | (refine B6 (by first | exact D5 _ | exact C7 _ _ | exact C2 _ | exact C9 _ | exact C6) ?_))))) | (refine K7 ?_ ?_; (first | exact TWrite.flat _ | exact TFeedItem.flat _ | exact TIdx.flat _ | exact TVer.flat _ | (repeat (first | exact C5 | (refine B6 (by first | exact D5 _ | exact C7 _ _ | exact C2 _ | exact C9 _ | exact C6) ?_))))) | refine M1 ?_ ?_))))); done)) (by first | exact H1 | (intro _; exact H1) | (intro _; first | exact D5 _ | exact C7 _ _ | exact C2 _ | exact C9 _ | exact C6) | (intro _; refine T8 ?_; (repeat (first | exact C5 | (refine B6 (by first | (first | exact D5 _ | exact C7 _ _ | exact C2 _ | exact C9 _ | exact C6) | (refine N1 ?_; (repeat (first | exact C5 | (refine B6 (by first | exact D5 _ | exact C7 _ _ | exact C2 _ | exact C9 _ | exact C6) ?_))))) ?_))); done) | (intro _; refine N1 ?_; (repeat (first | exact C5 | (refine B6 (by first | exact D5 _ | exact C7 _ _ | exact C2 _ | exact C9 _ | exact C6) ?_))); done) | ((repeat (first | exact H1 | (refine G1 (L8 ?_) ?_; (repeat (first | exact C5 | (refine B6 (by first | exact D5 _ | exact C7 _ _ | exact C2 _ | exact C9 _ | exact C6) ?_)))) | (refine G1 (L9 ?_) ?_; (repeat (first | exact M0 | (refine M2 (fun _ => ?_); (first | exact TWrite.flat _ | exact TFeedItem.flat _ | exact TIdx.flat _ | exact TVer.flat _ | (repeat (first | exact C5 | (refine B6 (by first | exact D5 _ | exact C7 _ _ | exact C2 _ | exact C9 _ | exact C6) ?_))))) | (refine M3 ?_; (first | exact TWrite.flat _ | exact TFeedItem.flat _ | exact TIdx.flat _ | exact TVer.flat _ | (repeat (first | exact C5 | (refine B6 (by first | exact D5 _ | exact C7 _ _ | exact C2 _ | exact C9 _ | exact C6) ?_))))) | (refine K7 ?_ ?_; (first | exact TWrite.flat _ | exact TFeedItem.flat _ | exact TIdx.flat _ | exact TVer.flat _ | (repeat (first | exact C5 | (refine B6 (by first | exact D5 _ | exact C7 _ _ | exact C2 _ | exact C9 _ | exact C6) ?_))))) | refine M1 ?_ ?_))))); done) | (intro _; (repeat (first | exact H1 | (refine G1 (L8 ?_) ?_; (repeat (first | exact C5 | (refine B6 (by first | exact D5 _ | exact C7 _ _ | exact C2 _ | exact C9 _ | exact C6) ?_)))) | (refine G1 (L9 ?_) ?_; (repeat (first | exact M0 | (refine M2 (fun _ => ?_); (first | exact TWrite.flat _ | exact TFeedItem.flat _ | exact TIdx.flat _ | exact TVer.flat _ | (repeat (first | exact C5 | (refine B6 (by first | exact D5 _ | exact C7 _ _ | exact C2 _ | exact C9 _ | exact C6) ?_))))) | (refine M3 ?_; (first | exact TWrite.flat _ | exact TFeedItem.flat _ | exact TIdx.flat _ | exact TVer.flat _ | (repeat (first | exact C5 | (refine B6 (by first | exact D5 _ | exact C7 _ _ | exact C2 _ | exact C9 _ | exact C6) ?_))))) | (refine K7 ?_ ?_; (first | exact TWrite.flat _ | exact TFeedItem.flat _ | exact TIdx.flat _ | exact TVer.flat _ | (repeat (first | exact C5 | (refine B6 (by first | exact D5 _ | exact C7 _ _ | exact C2 _ | exact C9 _ | exact C6) ?_))))) | refine M1 ?_ ?_))))); done)) (by first | exact H1 | (intro _; exact H1) | (intro _; first | exact D5 _ | exact C7 _ _ | exact C2 _ | exact C9 _ | exact C6) | (intro _; refine T8 ?_; (repeat (first | exact C5 | (refine B6 (by first | (first | exact D5 _ | exact C7 _ _ | exact C2 _ | exact C9 _ | exact C6) | (refine N1 ?_; (repeat (first | exact C5 | (refine B6 (by first | exact D5 _ | exact C7 _ _ | exact C2 _ | exact C9 _ | exact C6) ?_))))) ?_))); done) | (intro _; refine N1 ?_; (repeat (first | exact C5 | (refine B6 (by first | exact D5 _ | exact C7 _ _ | exact C2 _ | exact C9 _ | exact C6) ?_))); done) | ((repeat (first | exact H1 | (refine G1 (L8 ?_) ?_; (repeat (first | exact C5 | (refine B6 (by first | exact D5 _ | exact C7 _ _ | exact C2 _ | exact C9 _ | exact C6) ?_)))) | (refine G1 (L9 ?_) ?_; (repeat (first | exact M0 | (refine M2 (fun _ => ?_); (first | exact TWrite.flat _ | exact TFeedItem.flat _ | exact TIdx.flat _ | exact TVer.flat _ | (repeat (first | exact C5 | (refine B6 (by first | exact D5 _ | exact C7 _ _ | exact C2 _ | exact C9 _ | exact C6) ?_))))) | (refine M3 ?_; (first | exact TWrite.flat _ | exact TFeedItem.flat _ | exact TIdx.flat _ | exact TVer.flat _ | (repeat (first | exact C5 | (refine B6 (by first | exact D5 _ | exact C7 _ _ | exact C2 _ | exact C9 _ | exact C6) ?_))))) | (refine K7 ?_ ?_; (first | exact TWrite.flat _ | exact TFeedItem.flat _ | exact TIdx.flat _ | exact TVer.flat _ | (repeat (first | exact C5 | (refine B6 (by first | exact D5 _ | exact C7 _ _ | exact C2 _ | exact C9 _ | exact C6) ?_))))) | refine M1 ?_ ?_))))); done) | (intro _; (repeat (first | exact H1 | (refine G1 (L8 ?_) ?_; (repeat (first | exact C5 | (refine B6 (by first | exact D5 _ | exact C7 _ _ | exact C2 _ | exact C9 _ | exact C6) ?_)))) | (refine G1 (L9 ?_) ?_; (repeat (first | exact M0 | (refine M2 (fun _ => ?_); (first | exact TWrite.flat _ | exact TFeedItem.flat _ | exact TIdx.flat _ | exact TVer.flat _ | (repeat (first | exact C5 | (refine B6 (by first | exact D5 _ | exact C7 _ _ | exact C2 _ | exact C9 _ | exact C6) ?_))))) | (refine M3 ?_; (first | exact TWrite.flat _ | exact TFeedItem.flat _ | exact TIdx.flat _ | exact TVer.flat _ | (repeat (first | exact C5 | (refine B6 (by first | exact D5 _ | exact C7 _ _ | exact C2 _ | exact C9 _ | exact C6) ?_))))) | (refine K7 ?_ ?_; (first | exact TWrite.flat _ | exact TFeedItem.flat _ | exact TIdx.flat _ | exact TVer.flat _ | (repeat (first | exact C5 | (refine B6 (by first | exact D5 _ | exact C7 _ _ | exact C2 _ | exact C9 _ | exact C6) ?_))))) | refine M1 ?_ ?_))))); done)) ?_
 intro x55 ok55
 have he := Aw5 (f4 hg).1 (f4 hg).2 ok55.1 ok55.2
 subst he
 refine A4 (A3 (A2 ?_))
 refine A5 rfl ?_
 refine B1 rfl ?_
 refine A4 ?_
 refine B8 ?_
 exact U7 [0] v (trivial) rfl (by rfl) (V6 rfl (B7 rfl (by rfl)))
end Go.Proofs.YtkegepoihkhihaaGreat

namespace Go.M
open Go.AV
theorem Ag9 {l : List TCell} (h : goodCells l = true) {i : Nat} {c : TCell} {g a u : Int} {j : Nat} (hj : j ≤ 16) : (M.insAll [] (partItems l i c j g a u)).length ≤ 1000 := by
  have h1 := AN0 h (i := i) (c := c) (g := g) (a := a) (u := u) hj
  have h2 := AK5 (l := partItems l i c j g a u) (o := [])
  rw [X1] at h2; omega
theorem Ah0 {a u : Int} {x : TState} : ∀ {l : List TState} {k : Nat}, allItems a u k (l ++ [x]) = allItems a u k l ++ feedIn x.Cells ((k + l.length : Nat) : Int) a u
  | [], k => by
    show feedIn x.Cells k a u ++ [] = [] ++ _
    simp
  | y :: l, k => by
    show feedIn y.Cells k a u ++ allItems a u (k + 1) (l ++ [x]) = (feedIn y.Cells k a u ++ allItems a u (k + 1) l) ++ _
    rw [Ah0 (l := l) (k := k + 1), List.append_assoc, K0, show k + 1 + l.length = k + (l.length + 1) by omega]
theorem all_take {a u : Int} {l : List TState} {i : Nat} {x : TState} (h : l[i]? = some x) : allItems a u 0 (l.take (i + 1)) = allItems a u 0 (l.take i) ++ feedIn x.Cells (i : Int) a u := by
  have hi := (List.getElem?_eq_some_iff.1 h).1
  rw [List.take_add_one, h, Option.toList_some, Ah0, F8, Nat.zero_add, Nat.min_eq_left (by omega)]
theorem AH6 {s : TState} (h : goodCells s.Cells = true) (g a u : Int) : (feedIn s.Cells g a u).length ≤ 384 := by
  have h1 := AQ4 (f4 h).1 (f4 h).2 g a u
  obtain ⟨f1, f2, f3⟩ := Q3 h
  have h2 := AI5 (l := s.Cells) (g := g) (a := a) (u := u) fun c hc => (f3 c hc).2.2.1
  omega
theorem AU0 {a u : Int} : ∀ {l : List TState} {k : Nat}, (∀ s ∈ l, goodCells s.Cells = true) → (allItems a u k l).length ≤ 384 * l.length
  | [], k, _ => Nat.le_refl _
  | s :: l, k, h => by
    have ih := AU0 (a := a) (u := u) (l := l) (k := k + 1) fun t ht => h t (List.mem_cons_of_mem _ ht)
    have h1 := AH6 (h s List.mem_cons_self) k a u
    show (feedIn s.Cells k a u ++ allItems a u (k + 1) l).length ≤ _
    rw [I5, K0]; omega
theorem Aw8 {x : TFeedItem} (h : l23Good x = true) : x.size ≤ 36 := by
  rw [← AJ1] at h
  unfold goodItem isStored goodVal at h
  simp only [Bool.and_eq_true, decide_eq_true_eq] at h
  have h1 := Ad9 h.1.2
  have h2 := h.2.1.1
  show x.Key.length + x.Val.length ≤ 36
  omega
theorem AX7 {l : List TFeedItem} (h : l23Feed l = true) : sizeL TFeedItem.size l ≤ 20000 := by
  obtain ⟨h1, _, h3⟩ := (U0 l).1 h
  have h4 := x8 (f := TFeedItem.size) (c := 36) (l := l) fun x hx => Aw8 (h1 x hx)
  have h5 : l.length * (36 + 1) ≤ 400 * 37 := Nat.mul_le_mul_right _ h3
  omega
theorem mx_most (d s : Int) : (if s < d then d else s) = mxI d s := by unfold mxI; split <;> split <;> omega
theorem Al1 {a u : Int} {o : List TFeedItem} {l : List TState} {i : Nat} {x : TState} (h : l[i]? = some x) (hm : (mergeF o (feedIn x.Cells (i : Int) a u)).2 = true) : mergeN a u o i (l.drop i) = mergeN a u (mergeF o (feedIn x.Cells (i : Int) a u)).1 (i + 1) (l.drop (i + 1)) := by
  rw [drop_some h, mergeN, if_pos hm]
theorem Al2 {a u : Int} {o : List TFeedItem} {l : List TState} {i : Nat} {x : TState} (h : l[i]? = some x) (hm : (mergeF o (feedIn x.Cells (i : Int) a u)).2 = false) : mergeN a u o i (l.drop i) = none := by
  rw [drop_some h, mergeN, if_neg (by rw [hm]; decide)]
theorem Al3 {o b : List TFeedItem} (h : (mergeF o b).2 = true) : l23Feed (mergeF o b).1 = true := by
  rcases Ad2 o b with e | ⟨r, e, h1, h2, h3, h4⟩
  · rw [e] at h; cases h
  · rw [e]
    obtain ⟨o1, o2, o3⟩ := (U0 o).1 h1
    obtain ⟨g1, g2, g3⟩ := (U0 b).1 h2
    obtain ⟨r1, r2, _⟩ := q9 o2 h3
    exact (U0 r).2 ⟨fun x hx => ((r2 x).1 hx).elim (o1 x) (g1 x), r1, h4⟩
end Go.M
namespace Go.Proofs.YtkegepoihkhihaaGreat
open Go Go.AV Go.M
attribute [local irreducible] OpW OpA OpS AWP FSpec ESpec GSpec OpE RetOk RetOkG RvDen Le Ev GuardIs SrcIs SrcE Int.tmod IntKind.wrap bandI
theorem Aw9 (l : List TCell) (g a u : Int) (hg : goodCells l = true) : GSpec Tryz.prog 46 [AV.list 2 (l.map TCell.cs), AV.int g, AV.int a, AV.int u] [] (fun _ : Value => True) (fun v => [.arr v 63 5 ((feedIn l g a u).map TFeedItem.cs)]) (fun v => AV.is v) := by
 obtain ⟨f1, f2, f3⟩ := Q3 hg
 refine K4 Tryz.func46 rfl Tryz.ntmps46 rfl ?_
 refine A3 (A2 ?_)
 refine A1 rfl (A7 rfl S0) ?_
 refine A4 (A3 (A2 ?_))
 refine T2 rfl rfl rfl rfl E5 G0 ?_
 intro v13
 refine B1 rfl ?_
 refine A4 (A3 (A3 (A2 ?_)))
 refine A1 rfl (A7 rfl B4) ?_
 refine A4 (C3 ?_)
 refine AWP.le (P2 [0] rfl) ?_
 refine J7 [(0, _), (1, _), (2, _), (3, _), (8, _)] _ (fun (i : Nat) (v : Value) => i ≤ l.length) (fun (i : Nat) (v : Value) => [.arr v 63 5 ((M.insAll [] (rawItems (l.take i) g a u)).map TFeedItem.cs)]) (fun (i : Nat) (v : Value) => [(9, AV.is v), (10, AV.int i)]) (fun (i : Nat) (v : Value) => l.length - i) (0) (v13) ?_ (J9 (by rfl) ⟨rfl, rfl, rfl, rfl, rfl, rfl, rfl, trivial⟩) ?_
 ·exact Nat.zero_le _
 intro i v hinv
 refine A3 (A3 (A2 ?_))
 refine A5 rfl ?_
 refine A5 rfl ?_
 refine A1 rfl (E7 rfl F3 (A0 rfl)) ?_
 refine A1 rfl (F7 rfl (A0 rfl) (A0 rfl)) ?_
 refine A4 ?_
 refine C0 (A0 rfl) ?_ ?_
 ·intro h17
  have k17 := of_decide_eq_true h17; try simp only [A6] at k17
  have hlt : i < l.length := by (simpa using h17)
  obtain ⟨c, hx⟩ := get_some hlt
  have hcf := f3 c (H5 hx)
  refine C1 (A3 (C3 (A3 (A2 ?_))))
  refine A1 rfl (A7 rfl B4) ?_
  refine A4 (C3 ?_)
  refine AWP.le (P2 [0] rfl) ?_
  refine J7 [(0, _), (1, _), (2, _), (3, _), (8, _), (10, _), (14, _), (15, _), (16, _), (17, _)] _ (fun (j : Nat) (w : Value) => j ≤ c.Vers.length) (fun (j : Nat) (w : Value) => [.arr w 63 5 ((M.insAll [] (partItems l i c j g a u)).map TFeedItem.cs)]) (fun (j : Nat) (w : Value) => [(9, AV.is w), (11, AV.int j)]) (fun (j : Nat) (w : Value) => c.Vers.length - j) (0) (v) ?_ (J9 (by (rw [AH5]; rfl)) ⟨rfl, rfl, rfl, rfl, rfl, rfl, rfl, rfl, rfl, rfl, rfl, rfl, trivial⟩) ?_
  ·exact Nat.zero_le _
  intro j w hinv
  refine A3 (A3 (A2 ?_))
  refine A5 rfl ?_
  refine A5 rfl ?_
  refine A5 rfl ?_
  refine A1 rfl (I8 rfl F3 F2 (A0 rfl) (A0 rfl) hx (by first | omega | (simp only [D3, B0, szR] at *; omega))) ?_
  refine A1 rfl (Q8 rfl F9 rfl L2 (A0 rfl) rfl) ?_
  refine A1 rfl (K1 rfl (A0 rfl) O1 rfl) ?_
  refine A1 rfl (E7 rfl H4 (A0 rfl)) ?_
  refine A1 rfl (F7 rfl (A0 rfl) (A0 rfl)) ?_
  refine A4 ?_
  refine C0 (A0 rfl) ?_ ?_
  ·intro h27
   have k27 := of_decide_eq_true h27; try simp only [A6] at k27
   have hlt1 : j < c.Vers.length := by (simpa using h27)
   obtain ⟨y, hy⟩ := get_some hlt1
   have hpl := Ag9 hg (i := i) (c := c) (g := g) (a := a) (u := u) (j := j) (by omega)
   refine C1 (A3 (C3 (A3 (A2 ?_))))
   refine A5 rfl ?_
   refine A5 rfl ?_
   refine A1 rfl (I8 rfl F3 F2 (A0 rfl) (A0 rfl) hx (by first | omega | (simp only [D3, B0, szR] at *; omega))) ?_
   refine A1 rfl (Q8 rfl F9 rfl L2 (A0 rfl) rfl) ?_
   refine A1 rfl (K1 rfl (A0 rfl) O1 rfl) ?_
   refine A5 rfl ?_
   refine A1 rfl (I8 rfl H4 J1 (A0 rfl) (A0 rfl) hy (by first | omega | (simp only [D3, B0, szR] at *; omega))) ?_
   refine A1 rfl (H0 rfl (A0 rfl) W0 J1) ?_
   refine I2 rfl rfl rfl rfl Tryz.zeroValue127 rfl ?_
   intro b12
   refine G9 0 rfl rfl rfl (A0 rfl) (A0 rfl) (I7 _) rfl J1 rfl ?_
   refine A4 (A3 (A2 ?_))
   refine A1 rfl (B5 0 rfl G2 rfl B9 (A0 rfl) rfl) ?_
   refine A1 rfl (B2 0 rfl (A0 rfl) rfl D1 rfl) ?_
   refine A5 rfl ?_
   refine A1 rfl (S4 rfl (A0 rfl) (A0 rfl)) ?_
   refine A5 rfl ?_
   refine D4 rfl (fun hc => B5 0 rfl G2 rfl B9 (A0 rfl) rfl) ?_
   refine D4 rfl (fun hc => B2 0 rfl (A9 rfl hc) rfl D1 rfl) ?_
   refine D4 rfl (fun hc => C4 rfl (A0 rfl)) ?_
   refine D4 rfl (fun hc => S3 rfl (A9 rfl hc) (A9 rfl hc)) ?_
   refine A1 rfl (I1 rfl (A0 rfl) (F6 rfl)) ?_
   refine A4 ?_
   refine C0 (A0 rfl) ?_ ?_
   ·intro h47
    refine AWP.le (P2 [0] rfl) ?_
    refine AM2 _ 19 (.pure 0 (.pure 1 (.pure 2 (.pure 3 (.pure 4 (.pure 5 (.pure 6 (.pure 7 (.pure 8 (.pure 9 (.pure 10 (.pure 11 (.pure 12 (.pure 13 (.e1 14 (.pure 15 (.pure 16 (.pure 17 (.pure 18 .nil))))))))))))))))))) (by kernel_rfl) (by kernel_rfl) rfl (At9 1) ?_
    refine S1 rfl rfl rfl (fun ext => C4 rfl (A0 rfl)) ?_
    refine S1 rfl rfl rfl (fun ext => B5 0 rfl G2 rfl B9 (A0 rfl) rfl) ?_
    refine S1 rfl rfl rfl (fun ext => B2 0 rfl (A0 rfl) rfl D1 rfl) ?_
    refine S1 rfl rfl rfl (fun ext => C4 rfl (A0 rfl)) ?_
    refine S1 rfl rfl rfl (fun ext => C4 rfl (A0 rfl)) ?_
    refine S1 rfl rfl rfl (fun ext => C4 rfl (A0 rfl)) ?_
    refine S1 rfl rfl rfl (fun ext => I8 rfl F3 F2 (A0 rfl) (A0 rfl) hx (by first | omega | (simp only [D3, B0, szR] at *; omega))) ?_
    refine S1 rfl rfl rfl (fun ext => Q8 rfl F9 rfl D2 (A0 rfl) rfl) ?_
    refine S1 rfl rfl rfl (fun ext => K1 rfl (A0 rfl) E6 rfl) ?_
    refine S1 rfl rfl rfl (fun ext => B5 1 rfl G2 rfl D2 (A0 rfl) rfl) ?_
    refine S1 rfl rfl rfl (fun ext => B2 0 rfl (A0 rfl) rfl E6 rfl) ?_
    refine S1 rfl rfl rfl (fun ext => B5 2 rfl G2 rfl G3 (A0 rfl) rfl) ?_
    refine S1 rfl rfl rfl (fun ext => B2 0 rfl (A0 rfl) rfl I9 rfl) ?_
    refine S1 rfl rfl rfl (fun ext => Z0 (places := #[(0, 1), (1, 1), (2, 1), (3, 1), (4, 1)]) rfl F4 Tryz.zeroValue63 (fun w => by kernel_rfl) rfl (M8 (A0 rfl) (P0 _ _) (M8 (A0 rfl) (P0 _ _) (M8 (A0 rfl) (S5 _) (M8 (A0 rfl) (S5 _) (M8 (A0 rfl) (f7 _) S7))))) rfl) ?_
    refine bt_e1 ?_
    refine eff_s rfl rfl rfl (opE_call [1] rfl Tryz.call69 rfl (AQ7 w (M.insAll [] (partItems l i c j g a u)) (itemOf g c.Key y) (by omega)) (A8 (A0 rfl) (A8 (A0 rfl) C8)) rfl) (fun a _ => (by first | exact c5 rfl | exact c5 (List.append_assoc _ _ _) | exact t8)) ?_
    intro x63 ok63
    refine S1 rfl rfl rfl (fun ext => C4 rfl (A0 rfl)) ?_
    refine S1 rfl rfl rfl (fun ext => K3 rfl (A0 rfl) rfl) ?_
    refine S1 rfl rfl rfl (fun ext => K3 rfl (A0 rfl) rfl) ?_
    refine S1 rfl rfl rfl (fun ext => A7 rfl (A0 rfl)) ?_
    refine bt_nil ?_
    refine A4 (A2 ?_)
    refine A5 rfl ?_
    refine A1 rfl (E9 rfl (A0 rfl) B4 (by first | omega | (simp only [D3, B0, szR] at *; omega))) ?_
    refine B1 rfl ?_
    refine A4 ?_
    refine J5 j w (j + 1) (x63) ?_ ?_ (Le.trans (P2 [0, 0] rfl) (S8 1 (by first | (rw [AD4 hy h47, AQ8]; rfl) | (rw [AI6 hy h47]; rfl)) ⟨rfl, rfl, rfl, rfl, rfl, rfl, rfl, rfl, rfl, rfl, rfl, rfl, trivial⟩))
    ·exact (by omega)
    omega
   intro h47
   refine C1 (A2 ?_)
   refine A5 rfl ?_
   refine A1 rfl (E9 rfl (A0 rfl) B4 (by first | omega | (simp only [D3, B0, szR] at *; omega))) ?_
   refine B1 rfl ?_
   refine A4 ?_
   refine J5 j w (j + 1) (w) ?_ ?_ (Le.trans (P2 [0, 0] rfl) (S8 1 (by first | (rw [AD4 hy h47, AQ8]; rfl) | (rw [AI6 hy h47]; rfl)) ⟨rfl, rfl, rfl, rfl, rfl, rfl, rfl, rfl, rfl, rfl, rfl, rfl, trivial⟩))
   ·exact (by omega)
   omega
  intro h27
  have k27 := of_decide_eq_false h27; try simp only [A6] at k27
  have hge1 : c.Vers.length ≤ j := by (simpa using h27)
  refine F1 ?_
  refine A2 ?_
  refine A5 rfl ?_
  refine A1 rfl (E9 rfl (A0 rfl) B4 (by first | omega | (simp only [D3, B0, szR] at *; omega))) ?_
  refine B1 rfl ?_
  refine A4 ?_
  refine J5 i v (i + 1) (w) ?_ ?_ (Le.trans (P2 [0] rfl) (J9 (by (rw [AX6 hx hge1]; rfl)) ⟨rfl, rfl, rfl, rfl, rfl, rfl, rfl, trivial⟩))
  ·exact (by omega)
  omega
 intro h17
 have k17 := of_decide_eq_false h17; try simp only [A6] at k17
 have hge : l.length ≤ i := by (simpa using h17)
 rw [List.take_of_length_le hge]
 refine F1 ?_
 refine A3 (A2 ?_)
 refine A5 rfl ?_
 refine B1 rfl ?_
 refine A4 ?_
 refine B8 ?_
 exact U7 [0] v (trivial) rfl (by rfl) (V6 rfl (B7 rfl (by rfl)))
theorem As1 (l : List TCell) (g a u : Int) (hg : goodCells l = true) : FSpec Tryz.prog 46 [AV.list 2 (l.map TCell.cs), AV.int g, AV.int a, AV.int u] (AV.list 5 ((feedIn l g a u).map TFeedItem.cs)) :=
  n3 (Aw9 l g a u hg) fun v _ => d5 (List.mem_singleton.2 rfl) W8
theorem Ah1 (s : TState) (g a u : Int) (hg : goodCells s.Cells = true) : FSpec Tryz.prog 53 [AV.agg s.cs, AV.int g, AV.int a, AV.int u] (AV.list 5 ((feedIn s.Cells g a u).map TFeedItem.cs)) :=
  n3 (Al0 s g a u hg) fun v _ => d5 (List.mem_singleton.2 rfl) W8
theorem AH7 (d : Int) (l : List TState) (hs : ∀ s ∈ l, s.size ≤ 1048576) : GSpec Tryz.prog 25 [AV.agg [AV.int d], AV.list 4 (l.map TState.cs)] [] (fun _ : Value => True) (fun v => [.arr v 63 5 ((nextR d l).2.1.map TFeedItem.cs)]) (fun v => AV.tup [AV.agg [AV.int (nextR d l).1], AV.is v, AV.bool (nextR d l).2.2]) := by
 refine K4 Tryz.func25 rfl Tryz.ntmps25 rfl ?_
 refine A3 (A2 ?_)
 refine I6 rfl rfl rfl rfl (A0 rfl) ?_
 intro b2
 refine I2 rfl rfl rfl rfl Tryz.zeroValue52 rfl ?_
 intro b4
 refine A1 rfl (A7 rfl S0) ?_
 refine A1 rfl (A7 rfl E2) ?_
 refine A4 (A3 (A3 (A2 ?_)))
 refine A1 rfl (B5 0 rfl M7 rfl B9 (A0 rfl) rfl) ?_
 refine A1 rfl (B2 1 rfl (A0 rfl) rfl D1 rfl) ?_
 refine A1 rfl (D8 rfl Tryz.call52 rfl (AJ7 _) (A8 (A0 rfl) C8)) ?_
 refine A1 rfl (J3 rfl (A0 rfl)) ?_
 refine A5 rfl ?_
 refine I3 rfl (fun hc => C4 rfl (A0 rfl)) ?_
 refine I3 rfl (fun hc => D8 rfl Tryz.call40 rfl (AT9 l hs) (A8 (A9 rfl hc) C8)) ?_
 refine I3 rfl (fun hc => J3 rfl (A9 rfl hc)) ?_
 refine A1 rfl (P4 rfl (A0 rfl) (F6 rfl)) ?_
 refine A4 ?_
 refine C0 (A0 rfl) ?_ ?_
 ·intro h19
  have he : nextR d l = (0, [], false) := (by unfold nextR; rw [if_neg (by cases h1 : isTrue d <;> simp_all)])
  rw [he]
  refine A3 (A2 ?_)
  refine A1 rfl (Z0 (places := #[(0, 1)]) rfl M7 Tryz.zeroValue52 (fun w => by kernel_rfl) rfl S7 rfl) ?_
  refine G9 0 rfl rfl rfl (A0 rfl) (A0 rfl) (I7 _) rfl L1 rfl ?_
  refine A1 rfl (A7 rfl S0) ?_
  refine A1 rfl (A7 rfl E2) ?_
  refine A4 ?_
  refine B8 ?_
  refine Ab6 63 5 ?_
  exact U7 [0] (Value.slice none 0 0) (trivial) rfl (by rfl) (AC0 rfl (by decide) (J2 (S6 (ys := _) 1 rfl rfl R5 L1 rfl) (J2 (B7 rfl (by rfl)) (J2 (B7 rfl (by rfl)) R6))))
 intro h19
 have hc : isTrue d = true ∧ areStates l = true := (by cases h1 : isTrue d <;> cases h2 : areStates l <;> simp_all)
 have hst := r8.1 hc.2
 have hgc := v8 hst.2.2
 obtain ⟨up, hup⟩ : ∃ up, mxI d (sureL l) = up := ⟨_, rfl⟩
 have hnr : nextR d l = (match mergeN d up [] 0 l with | some r => (up, r, true) | none => (0, [], false)) := (by unfold nextR; rw [hc.1, hc.2, hup]; rfl)
 refine C1 (A3 ?_)
 refine H7 (by kernel_rfl) (by kernel_rfl) rfl ?_
 refine B3 rfl rfl (B5 0 rfl M7 rfl B9 (A0 rfl) rfl) ?_
 refine B3 rfl rfl (B2 1 rfl (A0 rfl) rfl D1 rfl) ?_
 refine B3 rfl rfl (C4 rfl (A0 rfl)) ?_
 refine B3 rfl rfl (D8 rfl Tryz.call41 rfl (Ak9 l hst.2.2) (A8 (A0 rfl) C8)) ?_
 refine B3 rfl rfl (w_max rfl (A0 rfl) (A0 rfl)) ?_
 refine B3 rfl rfl (A7 rfl (A0 rfl)) ?_
 refine O4 ?_
 refine A3 (A2 ?_)
 refine T2 rfl rfl rfl rfl E5 G0 ?_
 intro v26
 refine B1 rfl ?_
 refine A4 (A3 (A3 (A2 ?_)))
 refine A5 rfl ?_
 refine A1 rfl (E7 rfl I4 (A0 rfl)) ?_
 refine A1 rfl (C4 rfl B4) ?_
 refine A4 (C3 ?_)
 refine AWP.le (P2 [0] rfl) ?_
 refine J7 [(2, _), (4, _), (5, _), (6, _), (7, _), (27, _), (28, _)] _ (fun (i : Nat) (v : Value) => i ≤ l.length) (fun (i : Nat) (v : Value) => [.arr v 63 5 ((allItems d (mxI d (sureL l)) 0 (l.take i)).map TFeedItem.cs)]) (fun (i : Nat) (v : Value) => [(8, AV.is v), (29, AV.int i)]) (fun (i : Nat) (v : Value) => l.length - i) (0) (v26) ?_ (J9 (by rfl) ⟨rfl, rfl, rfl, rfl, rfl, rfl, rfl, rfl, rfl, trivial⟩) ?_
 ·exact Nat.zero_le _
 intro i v hinv
 refine A3 (A2 ?_)
 refine A1 rfl (F7 rfl (A0 rfl) (A0 rfl)) ?_
 refine A4 (A3 ?_)
 refine C0 (A0 rfl) ?_ ?_
 ·intro h30
  have k30 := of_decide_eq_true h30; try simp only [A6] at k30
  have hlt : i < l.length := by (simpa using h30)
  obtain ⟨x, hx⟩ := get_some hlt
  have hxg := hgc x (H5 hx)
  have hal := AU0 (a := d) (u := mxI d (sureL l)) (l := l.take i) (k := 0) (fun s hm => hgc s (List.mem_of_mem_take hm))
  have hfs := AH6 hxg (i : Int) d (mxI d (sureL l))
  have htl : (l.take i).length ≤ 4 := (by rw [F8]; omega)
  refine C1 (A3 (C3 (A3 (A2 ?_))))
  refine A5 rfl ?_
  refine A1 rfl (I8 rfl I4 I0 (A0 rfl) (A0 rfl) hx (by first | omega | (simp only [D3, B0, szR] at *; omega))) ?_
  refine A1 rfl (H0 rfl (A0 rfl) N3 I0) ?_
  refine I2 rfl rfl rfl rfl Tryz.zeroValue43 rfl ?_
  intro b10
  refine B1 rfl ?_
  refine G9 0 rfl rfl rfl (A0 rfl) (A0 rfl) (I7 _) rfl I0 rfl ?_
  refine A4 (A2 ?_)
  refine A5 rfl ?_
  refine A1 rfl (L5 0 rfl (A0 rfl) rfl N3 I0 rfl) ?_
  refine A5 rfl ?_
  refine A1 rfl (B5 0 rfl M7 rfl B9 (A0 rfl) rfl) ?_
  refine A1 rfl (B2 3 rfl (A0 rfl) rfl D1 rfl) ?_
  refine A5 rfl ?_
  refine A1 rfl (D8 rfl Tryz.call53 rfl (Ah1 x (i : Int) d (mxI d (sureL l)) hxg) (A8 (A0 rfl) (A8 (A0 rfl) (A8 (A0 rfl) (A8 (A0 rfl) C8))))) ?_
  refine U6 (by' := 56) 1 rfl rfl rfl rfl E5 Tryz.type63 rfl rfl rfl rfl rfl rfl (A0 rfl) (A0 rfl) rfl (by simp only [A6]; omega) ?_
  intro v41_2
  refine B1 rfl ?_
  refine A4 (A2 ?_)
  refine A1 rfl (E9 rfl (A0 rfl) B4 (by first | omega | (simp only [D3, B0, szR] at *; omega))) ?_
  refine A5 rfl ?_
  refine A4 ?_
  refine J5 i v (i + 1) (v41_2) ?_ ?_ (Le.trans (P2 [0, 0] rfl) (S8 1 (by (rw [all_take hx, List.map_append]; rfl)) ⟨rfl, rfl, rfl, rfl, rfl, rfl, rfl, rfl, rfl, trivial⟩))
  ·exact (by omega)
  omega
 intro h30
 have k30 := of_decide_eq_false h30; try simp only [A6] at k30
 have hge : l.length ≤ i := by (simpa using h30)
 rw [List.take_of_length_le hge]
 have hal := AU0 (a := d) (u := mxI d (sureL l)) (l := l) (k := 0) hgc
 refine F1 ?_
 refine A3 (A2 ?_)
 refine A5 rfl ?_
 refine p4 [0] rfl rfl rfl rfl Tryz.call63 rfl (AB1 v (allItems d (mxI d (sureL l)) 0 l) (by omega)) rfl (M5 (evb (A0 rfl)) (M5 (evb Am2) T4)) (by first | exact H1 | (intro _; exact H1) | (intro _; first | exact D5 _ | exact C7 _ _ | exact C2 _ | exact C9 _ | exact C6) | (intro _; refine T8 ?_; (repeat (first | exact C5 | (refine B6 (by first | (first | exact D5 _ | exact C7 _ _ | exact C2 _ | exact C9 _ | exact C6) | (refine N1 ?_; (repeat (first | exact C5 | (refine B6 (by first | exact D5 _ | exact C7 _ _ | exact C2 _ | exact C9 _ | exact C6) ?_))))) ?_))); done) | (intro _; refine N1 ?_; (repeat (first | exact C5 | (refine B6 (by first | exact D5 _ | exact C7 _ _ | exact C2 _ | exact C9 _ | exact C6) ?_))); done) | ((repeat (first | exact H1 | (refine G1 (L8 ?_) ?_; (repeat (first | exact C5 | (refine B6 (by first | exact D5 _ | exact C7 _ _ | exact C2 _ | exact C9 _ | exact C6) ?_)))) | (refine G1 (L9 ?_) ?_; (repeat (first | exact M0 | (refine M2 (fun _ => ?_); (first | exact TWrite.flat _ | exact TFeedItem.flat _ | exact TIdx.flat _ | exact TVer.flat _ | (repeat (first | exact C5 | (refine B6 (by first | exact D5 _ | exact C7 _ _ | exact C2 _ | exact C9 _ | exact C6) ?_))))) | (refine M3 ?_; (first | exact TWrite.flat _ | exact TFeedItem.flat _ | exact TIdx.flat _ | exact TVer.flat _ | (repeat (first | exact C5 | (refine B6 (by first | exact D5 _ | exact C7 _ _ | exact C2 _ | exact C9 _ | exact C6) ?_))))) | (refine K7 ?_ ?_; (first | exact TWrite.flat _ | exact TFeedItem.flat _ | exact TIdx.flat _ | exact TVer.flat _ | (repeat (first | exact C5 | (refine B6 (by first | exact D5 _ | exact C7 _ _ | exact C2 _ | exact C9 _ | exact C6) ?_))))) | refine M1 ?_ ?_))))); done) | (intro _; (repeat (first | exact H1 | (refine G1 (L8 ?_) ?_; (repeat (first | exact C5 | (refine B6 (by first | exact D5 _ | exact C7 _ _ | exact C2 _ | exact C9 _ | exact C6) ?_)))) | (refine G1 (L9 ?_) ?_; (repeat (first | exact M0 | (refine M2 (fun _ => ?_); (first | exact TWrite.flat _ | exact TFeedItem.flat _ | exact TIdx.flat _ | exact TVer.flat _ | (repeat (first | exact C5 | (refine B6 (by first | exact D5 _ | exact C7 _ _ | exact C2 _ | exact C9 _ | exact C6) ?_))))) | (refine M3 ?_; (first | exact TWrite.flat _ | exact TFeedItem.flat _ | exact TIdx.flat _ | exact TVer.flat _ | (repeat (first | exact C5 | (refine B6 (by first | exact D5 _ | exact C7 _ _ | exact C2 _ | exact C9 _ | exact C6) ?_))))) | (refine K7 ?_ ?_; (first | exact TWrite.flat _ | exact TFeedItem.flat _ | exact TIdx.flat _ | exact TVer.flat _ | (repeat (first | exact C5 | (refine B6 (by first | exact D5 _ | exact C7 _ _ | exact C2 _ | exact C9 _ | exact C6) ?_))))) | refine M1 ?_ ?_))))); done)) (by first | exact H1 | (intro _; exact H1) | (intro _; first | exact D5 _ | exact C7 _ _ | exact C2 _ | exact C9 _ | exact C6) | (intro _; refine T8 ?_; (repeat (first | exact C5 | (refine B6 (by first | (first | exact D5 _ | exact C7 _ _ | exact C2 _ | exact C9 _ | exact C6) | (refine N1 ?_; (repeat (first | exact C5 | (refine B6 (by first | exact D5 _ | exact C7 _ _ | exact C2 _ | exact C9 _ | exact C6) ?_))))) ?_))); done) | (intro _; refine N1 ?_; (repeat (first | exact C5 | (refine B6 (by first | exact D5 _ | exact C7 _ _ | exact C2 _ | exact C9 _ | exact C6) ?_))); done) | ((repeat (first | exact H1 | (refine G1 (L8 ?_) ?_; (repeat (first | exact C5 | (refine B6 (by first | exact D5 _ | exact C7 _ _ | exact C2 _ | exact C9 _ | exact C6) ?_)))) | (refine G1 (L9 ?_) ?_; (repeat (first | exact M0 | (refine M2 (fun _ => ?_); (first | exact TWrite.flat _ | exact TFeedItem.flat _ | exact TIdx.flat _ | exact TVer.flat _ | (repeat (first | exact C5 | (refine B6 (by first | exact D5 _ | exact C7 _ _ | exact C2 _ | exact C9 _ | exact C6) ?_))))) | (refine M3 ?_; (first | exact TWrite.flat _ | exact TFeedItem.flat _ | exact TIdx.flat _ | exact TVer.flat _ | (repeat (first | exact C5 | (refine B6 (by first | exact D5 _ | exact C7 _ _ | exact C2 _ | exact C9 _ | exact C6) ?_))))) | (refine K7 ?_ ?_; (first | exact TWrite.flat _ | exact TFeedItem.flat _ | exact TIdx.flat _ | exact TVer.flat _ | (repeat (first | exact C5 | (refine B6 (by first | exact D5 _ | exact C7 _ _ | exact C2 _ | exact C9 _ | exact C6) ?_))))) | refine M1 ?_ ?_))))); done) | (intro _; (repeat (first | exact H1 | (refine G1 (L8 ?_) ?_; (repeat (first | exact C5 | (refine B6 (by first | exact D5 _ | exact C7 _ _ | exact C2 _ | exact C9 _ | exact C6) ?_)))) | (refine G1 (L9 ?_) ?_; (repeat (first | exact M0 | (refine M2 (fun _ => ?_); (first | exact TWrite.flat _ | exact TFeedItem.flat _ | exact TIdx.flat _ | exact TVer.flat _ | (repeat (first | exact C5 | (refine B6 (by first | exact D5 _ | exact C7 _ _ | exact C2 _ | exact C9 _ | exact C6) ?_))))) | (refine M3 ?_; (first | exact TWrite.flat _ | exact TFeedItem.flat _ | exact TIdx.flat _ | exact TVer.flat _ | (repeat (first | exact C5 | (refine B6 (by first | exact D5 _ | exact C7 _ _ | exact C2 _ | exact C9 _ | exact C6) ?_))))) | (refine K7 ?_ ?_; (first | exact TWrite.flat _ | exact TFeedItem.flat _ | exact TIdx.flat _ | exact TVer.flat _ | (repeat (first | exact C5 | (refine B6 (by first | exact D5 _ | exact C7 _ _ | exact C2 _ | exact C9 _ | exact C6) ?_))))) | refine M1 ?_ ?_))))); done)) (by first | exact H1 | (intro _; exact H1) | (intro _; first | exact D5 _ | exact C7 _ _ | exact C2 _ | exact C9 _ | exact C6) | (intro _; refine T8 ?_; (repeat (first | exact C5 | (refine B6 (by first | (first | exact D5 _ | exact C7 _ _ | exact C2 _ | exact C9 _ | exact C6) | (refine N1 ?_; (repeat (first | exact C5 | (refine B6 (by first | exact D5 _ | exact C7 _ _ | exact C2 _ | exact C9 _ | exact C6) ?_))))) ?_))); done) | (intro _; refine N1 ?_; (repeat (first | exact C5 | (refine B6 (by first | exact D5 _ | exact C7 _ _ | exact C2 _ | exact C9 _ | exact C6) ?_))); done) | ((repeat (first | exact H1 | (refine G1 (L8 ?_) ?_; (repeat (first | exact C5 | (refine B6 (by first | exact D5 _ | exact C7 _ _ | exact C2 _ | exact C9 _ | exact C6) ?_)))) | (refine G1 (L9 ?_) ?_; (repeat (first | exact M0 | (refine M2 (fun _ => ?_); (first | exact TWrite.flat _ | exact TFeedItem.flat _ | exact TIdx.flat _ | exact TVer.flat _ | (repeat (first | exact C5 | (refine B6 (by first | exact D5 _ | exact C7 _ _ | exact C2 _ | exact C9 _ | exact C6) ?_))))) | (refine M3 ?_; (first | exact TWrite.flat _ | exact TFeedItem.flat _ | exact TIdx.flat _ | exact TVer.flat _ | (repeat (first | exact C5 | (refine B6 (by first | exact D5 _ | exact C7 _ _ | exact C2 _ | exact C9 _ | exact C6) ?_))))) | (refine K7 ?_ ?_; (first | exact TWrite.flat _ | exact TFeedItem.flat _ | exact TIdx.flat _ | exact TVer.flat _ | (repeat (first | exact C5 | (refine B6 (by first | exact D5 _ | exact C7 _ _ | exact C2 _ | exact C9 _ | exact C6) ?_))))) | refine M1 ?_ ?_))))); done) | (intro _; (repeat (first | exact H1 | (refine G1 (L8 ?_) ?_; (repeat (first | exact C5 | (refine B6 (by first | exact D5 _ | exact C7 _ _ | exact C2 _ | exact C9 _ | exact C6) ?_)))) | (refine G1 (L9 ?_) ?_; (repeat (first | exact M0 | (refine M2 (fun _ => ?_); (first | exact TWrite.flat _ | exact TFeedItem.flat _ | exact TIdx.flat _ | exact TVer.flat _ | (repeat (first | exact C5 | (refine B6 (by first | exact D5 _ | exact C7 _ _ | exact C2 _ | exact C9 _ | exact C6) ?_))))) | (refine M3 ?_; (first | exact TWrite.flat _ | exact TFeedItem.flat _ | exact TIdx.flat _ | exact TVer.flat _ | (repeat (first | exact C5 | (refine B6 (by first | exact D5 _ | exact C7 _ _ | exact C2 _ | exact C9 _ | exact C6) ?_))))) | (refine K7 ?_ ?_; (first | exact TWrite.flat _ | exact TFeedItem.flat _ | exact TIdx.flat _ | exact TVer.flat _ | (repeat (first | exact C5 | (refine B6 (by first | exact D5 _ | exact C7 _ _ | exact C2 _ | exact C9 _ | exact C6) ?_))))) | refine M1 ?_ ?_))))); done)) ?_
 intro x44 ok44
 have hne := next_eq hgc hst.2.1 ok44.1 ok44.2
 rw [hup] at hne
 refine A4 (A3 (A3 (A2 ?_)))
 refine A5 rfl ?_
 refine A1 rfl (Z1 rfl Tryz.call65 rfl (Ai7 x44) (C2 _) (M5 (j8 0 (A0 rfl) rfl) T4)) ?_
 refine A1 rfl (J3 rfl (A0 rfl)) ?_
 refine A4 ?_
 refine C0 (A0 rfl) ?_ ?_
 ·intro h47
  have he : nextR d l = (0, [], false) := (by rw [hnr, ← hne, if_neg (by simpa using h47)])
  rw [he]
  refine A3 (A2 ?_)
  refine A1 rfl (Z0 (places := #[(0, 1)]) rfl M7 Tryz.zeroValue52 (fun w => by kernel_rfl) rfl S7 rfl) ?_
  refine G9 1 rfl rfl rfl (A0 rfl) (A0 rfl) (I7 _) rfl L1 rfl ?_
  refine A1 rfl (A7 rfl S0) ?_
  refine A1 rfl (A7 rfl E2) ?_
  refine A4 ?_
  refine B8 ?_
  refine Ab6 63 5 ?_
  exact U7 [0] (Value.slice none 0 0) (trivial) rfl (by rfl) (AC0 rfl (by decide) (J2 (S6 (ys := _) 2 rfl rfl R5 L1 rfl) (J2 (B7 rfl (by rfl)) (J2 (B7 rfl (by rfl)) R6))))
 intro h47
 have he : nextR d l = (up, x44, true) := (by rw [hnr, ← hne, if_pos (by simpa using h47)])
 rw [he, ← hup]
 refine C1 (A3 (A2 ?_))
 refine A5 rfl ?_
 refine A1 rfl (Z0 (places := #[(0, 1)]) rfl M7 Tryz.zeroValue52 (fun w => by kernel_rfl) rfl (M8 (A0 rfl) (P0 _ _) S7) rfl) ?_
 refine A5 rfl ?_
 refine G9 1 rfl rfl rfl (A0 rfl) (A0 rfl) (I7 _) rfl L1 rfl ?_
 refine B1 rfl ?_
 refine A1 rfl (A7 rfl E2) ?_
 refine A4 ?_
 refine B8 ?_
 exact U7 [0] v (trivial) rfl (by rfl) (AC0 rfl (by decide) (J2 (S6 (ys := _) 1 rfl rfl R5 L1 rfl) (J2 (B7 rfl (by rfl)) (J2 (B7 rfl (by rfl)) R6))))
theorem As2 (d s : Int) : FSpec Tryz.prog 62 [AV.int s, AV.int d] (AV.int (mxI d s)) := by
  have h := Ag5 s d
  rw [mx_most] at h; exact h
theorem Ah2 (a b : List TFeedItem) (hsa : sizeL TFeedItem.size a ≤ 1048576) (hsb : sizeL TFeedItem.size b ≤ 1048576) : FSpec Tryz.prog 31 [AV.list 5 (a.map TFeedItem.cs), AV.list 5 (b.map TFeedItem.cs)] (AV.tup [AV.list 5 ((mergeF a b).1.map TFeedItem.cs), AV.bool (mergeF a b).2]) :=
  n3 (As0 a b hsa hsb) fun x _ => lt_tup (W3 (d5 (H5 (i := 0) rfl) W8) (W3 k0 AA6))
theorem AU1 (d : Int) (l : List TState) (hs : ∀ s ∈ l, s.size ≤ 1048576) : FSpec Tryz.prog 23 [AV.agg [AV.int d], AV.list 4 (l.map TState.cs)] (AV.tup [AV.agg [AV.int (nextR d l).1], AV.list 5 ((nextR d l).2.1.map TFeedItem.cs), AV.bool (nextR d l).2.2]) := by
 refine D0 Tryz.func23 rfl Tryz.ntmps23 rfl ?_
 refine A3 (A2 ?_)
 refine I6 rfl rfl rfl rfl (A0 rfl) ?_
 intro b2
 refine I2 rfl rfl rfl rfl Tryz.zeroValue52 rfl ?_
 intro b4
 refine A1 rfl (A7 rfl (c0 (sz := 5))) ?_
 refine A1 rfl (A7 rfl E2) ?_
 refine A4 (A3 (A2 ?_))
 refine A5 rfl ?_
 refine A1 rfl (D8 rfl Tryz.call10 rfl (Ag8 l hs) (A8 (A0 rfl) C8)) ?_
 refine A5 rfl ?_
 refine A1 rfl (K3 rfl (A0 rfl) rfl) ?_
 refine A1 rfl (K3 rfl (A0 rfl) rfl) ?_
 refine B1 rfl ?_
 refine B1 rfl ?_
 refine A4 (A3 (A3 (A2 ?_)))
 refine A5 rfl ?_
 refine A1 rfl (J3 rfl (A0 rfl)) ?_
 refine A5 rfl ?_
 refine I3 rfl (fun hc => B5 0 rfl M7 rfl B9 (A0 rfl) rfl) ?_
 refine I3 rfl (fun hc => B2 1 rfl (A9 rfl hc) rfl D1 rfl) ?_
 refine I3 rfl (fun hc => D8 rfl Tryz.call39 rfl (R9 _ _ _) (A8 (A9 rfl hc) (A8 B4 (A8 B4 C8)))) ?_
 refine I3 rfl (fun hc => J3 rfl (A9 rfl hc)) ?_
 refine A1 rfl (P4 rfl (A0 rfl) (F6 rfl)) ?_
 refine A4 ?_
 refine C0 (A0 rfl) ?_ ?_
 ·intro h25
  have he : nextR d l = (0, [], false) := (by unfold nextR; rw [if_neg (by intro h9; rw [Bool.and_eq_true] at h9; unfold sureR at h25; rw [if_pos h9.2] at h25; have h8 := h9.1; unfold M.isTrue at h8; simp [h8] at h25)])
  rw [he]
  refine A3 (A2 ?_)
  refine A1 rfl (Z0 (places := #[(0, 1)]) rfl M7 Tryz.zeroValue52 (fun w => by kernel_rfl) rfl S7 rfl) ?_
  refine A1 rfl (W4 rfl E5 G0 Tryz.zeroValue63 rfl rfl rfl rfl S7 rfl rfl) ?_
  refine G9 0 rfl rfl rfl (A0 rfl) (A0 rfl) (I7 _) rfl L1 rfl ?_
  refine B1 rfl ?_
  refine A1 rfl (A7 rfl E2) ?_
  refine A4 ?_
  refine B8 ?_
  exact g9 rfl (by decide) (J2 (S6 (ys := _) 0 rfl rfl R5 L1 rfl) (J2 (B7 rfl (by rfl)) (J2 (B7 rfl (by rfl)) R6)))
 intro h25
 have hc : isTrue d = true ∧ areStates l = true := (by unfold sureR at h25; cases h2 : areStates l with | false => (rw [h2] at h25; simp at h25) | true => (rw [h2] at h25; exact ⟨by unfold M.isTrue; simpa using h25, rfl⟩))
 have hst := r8.1 hc.2
 have hgc := v8 hst.2.2
 have hsr : sureR l = (sureL l, true) := (by unfold sureR; rw [if_pos hc.2])
 rw [hsr]
 refine C1 (A3 (A2 ?_))
 refine A5 rfl ?_
 refine A1 rfl (B5 0 rfl M7 rfl B9 (A0 rfl) rfl) ?_
 refine A1 rfl (B2 1 rfl (A0 rfl) rfl D1 rfl) ?_
 refine A1 rfl (D8 rfl Tryz.call62 rfl (As2 _ _) (A8 (A0 rfl) (A8 (A0 rfl) C8))) ?_
 refine B1 rfl ?_
 refine A4 (A3 (A2 ?_))
 refine A1 rfl (W4 rfl E5 G0 Tryz.zeroValue63 rfl rfl rfl rfl S7 rfl rfl) ?_
 refine B1 rfl ?_
 refine A4 (A3 (A3 (A2 ?_)))
 refine A1 rfl (A7 rfl B4) ?_
 refine A4 (C3 ?_)
 refine J7 [(1, _), (2, _), (4, _), (7, _)] _ (fun (i : Nat) (o : List TFeedItem) => i ≤ l.length ∧ mergeN d (mxI d (sureL l)) [] 0 l = mergeN d (mxI d (sureL l)) o i (l.drop i) ∧ l23Feed o = true) (fun (i : Nat) (o : List TFeedItem) => []) (fun (i : Nat) (o : List TFeedItem) => [(9, AV.list 5 (o.map TFeedItem.cs)), (10, AV.int i)]) (fun (i : Nat) (o : List TFeedItem) => l.length - i) (0) ([]) ?_ (J9 (by rfl) ⟨rfl, rfl, rfl, rfl, rfl, rfl, trivial⟩) ?_
 ·exact ⟨Nat.zero_le _, rfl, rfl⟩
 intro i o hinv
 refine A3 (A3 (A2 ?_))
 refine A5 rfl ?_
 refine A5 rfl ?_
 refine A1 rfl (E7 rfl I4 (A0 rfl)) ?_
 refine A1 rfl (F7 rfl (A0 rfl) (A0 rfl)) ?_
 refine A4 ?_
 refine C0 (A0 rfl) ?_ ?_
 ·intro h36
  have k36 := of_decide_eq_true h36; try simp only [A6] at k36
  have hlt : i < l.length := by (simpa using h36)
  obtain ⟨x, hx⟩ := get_some hlt
  have hxg := hgc x (H5 hx)
  have hso : sizeL TFeedItem.size o ≤ 1048576 := Nat.le_trans (AX7 hinv.2.2) (by decide)
  have hff := (AK4 hxg (g := (i : Int)) (by unfold isGroup within; simp; omega) d (mxI d (sureL l))).1
  have hsf : sizeL TFeedItem.size (feedIn x.Cells (i : Int) d (mxI d (sureL l))) ≤ 1048576 := Nat.le_trans (AX7 hff) (by decide)
  refine C1 (A3 (C3 (A3 ?_)))
  refine H7 (by kernel_rfl) (by kernel_rfl) rfl ?_
  refine B3 rfl rfl (C4 rfl (A0 rfl)) ?_
  refine B3 rfl rfl (C4 rfl (A0 rfl)) ?_
  refine B3 rfl rfl (C4 rfl (A0 rfl)) ?_
  refine B3 rfl rfl (I8 rfl I4 I0 (A0 rfl) (A0 rfl) hx (by first | omega | (simp only [D3, B0, szR] at *; omega))) ?_
  refine B3 rfl rfl (Q8 rfl E3 rfl L6 (A0 rfl) rfl) ?_
  refine B3 rfl rfl (K1 rfl (A0 rfl) O3 rfl) ?_
  refine B3 rfl rfl (C4 rfl (A0 rfl)) ?_
  refine B3 rfl rfl (B5 0 rfl M7 rfl B9 (A0 rfl) rfl) ?_
  refine B3 rfl rfl (B2 1 rfl (A0 rfl) rfl D1 rfl) ?_
  refine B3 rfl rfl (C4 rfl (A0 rfl)) ?_
  refine B3 rfl rfl (D8 rfl Tryz.call46 rfl (As1 x.Cells (i : Int) d (mxI d (sureL l)) hxg) (A8 (A0 rfl) (A8 (A0 rfl) (A8 (A0 rfl) (A8 (A0 rfl) C8))))) ?_
  refine B3 rfl rfl (D8 rfl Tryz.call31 rfl (Ah2 _ _ (by assumption) (by assumption)) (A8 (A0 rfl) (A8 (A0 rfl) C8))) ?_
  refine B3 rfl rfl (C4 rfl (A0 rfl)) ?_
  refine B3 rfl rfl (K3 rfl (A0 rfl) rfl) ?_
  refine B3 rfl rfl (K3 rfl (A0 rfl) rfl) ?_
  refine B3 rfl rfl (A7 rfl (A0 rfl)) ?_
  refine B3 rfl rfl (A7 rfl (A0 rfl)) ?_
  refine O4 ?_
  refine A3 (A3 (A2 ?_))
  refine A5 rfl ?_
  refine A1 rfl (J3 rfl (A0 rfl)) ?_
  refine A4 ?_
  refine C0 (A0 rfl) ?_ ?_
  ·intro h55
   have hmf : (mergeF o (feedIn x.Cells (i : Int) d (mxI d (sureL l)))).2 = false := by simpa using h55
   have hmn : mergeN d (mxI d (sureL l)) [] 0 l = none := (by rw [hinv.2.1, Al2 hx hmf])
   have he : nextR d l = (0, [], false) := (by unfold nextR; rw [hc.1, hc.2, hmn]; rfl)
   rw [he]
   refine A3 (A2 ?_)
   refine A1 rfl (Z0 (places := #[(0, 1)]) rfl M7 Tryz.zeroValue52 (fun w => by kernel_rfl) rfl S7 rfl) ?_
   refine A1 rfl (W4 rfl E5 G0 Tryz.zeroValue63 rfl rfl rfl rfl S7 rfl rfl) ?_
   refine G9 0 rfl rfl rfl (A0 rfl) (A0 rfl) (I7 _) rfl L1 rfl ?_
   refine B1 rfl ?_
   refine A1 rfl (A7 rfl E2) ?_
   refine A4 ?_
   refine B8 ?_
   exact g9 rfl (by decide) (J2 (S6 (ys := _) 0 rfl rfl R5 L1 rfl) (J2 (B7 rfl (by rfl)) (J2 (B7 rfl (by rfl)) R6)))
  intro h55
  have hmf : (mergeF o (feedIn x.Cells (i : Int) d (mxI d (sureL l)))).2 = true := by simpa using h55
  refine C1 (A2 ?_)
  refine A5 rfl ?_
  refine B1 rfl ?_
  refine A4 (A2 ?_)
  refine A5 rfl ?_
  refine A1 rfl (E9 rfl (A0 rfl) B4 (by first | omega | (simp only [D3, B0, szR] at *; omega))) ?_
  refine B1 rfl ?_
  refine A4 ?_
  refine J5 i o (i + 1) ((mergeF o (feedIn x.Cells (i : Int) d (mxI d (sureL l)))).1) ?_ ?_ (J9 (by rfl) ⟨rfl, rfl, rfl, rfl, rfl, rfl, trivial⟩)
  ·exact ⟨by omega, by rw [hinv.2.1, Al1 hx hmf], Al3 hmf⟩
  omega
 intro h36
 have k36 := of_decide_eq_false h36; try simp only [A6] at k36
 have hge : l.length ≤ i := by (simpa using h36)
 have hmn : mergeN d (mxI d (sureL l)) [] 0 l = some o := (by rw [hinv.2.1, List.drop_eq_nil_of_le hge]; rfl)
 have he : nextR d l = (mxI d (sureL l), o, true) := (by unfold nextR; rw [hc.1, hc.2, hmn]; rfl)
 rw [he]
 refine F1 ?_
 refine A3 (A2 ?_)
 refine A5 rfl ?_
 refine A1 rfl (Z0 (places := #[(0, 1)]) rfl M7 Tryz.zeroValue52 (fun w => by kernel_rfl) rfl (M8 (A0 rfl) (P0 _ _) S7) rfl) ?_
 refine A5 rfl ?_
 refine G9 0 rfl rfl rfl (A0 rfl) (A0 rfl) (I7 _) rfl L1 rfl ?_
 refine B1 rfl ?_
 refine A1 rfl (A7 rfl E2) ?_
 refine A4 ?_
 refine B8 ?_
 exact g9 rfl (by decide) (J2 (S6 (ys := _) 0 rfl rfl R5 L1 rfl) (J2 (B7 rfl (by rfl)) (J2 (B7 rfl (by rfl)) R6)))
end Go.Proofs.YtkegepoihkhihaaGreat

namespace Go.M
open Go.AV
def TPlaces.markE (p : TPlaces) (k : Int) : TPlaces := ⟨k, (p.mark (k + 1)).Cuts, (p.mark (k + 1)).Groups⟩
def TPlaces.markEN (p : TPlaces) (k : Int) : Int := p.markN (k + 1)
theorem TPlaces.markEN_le (p : TPlaces) (k : Int) : k ≤ p.markEN k := by unfold TPlaces.markEN TPlaces.markN; omega
theorem TPlaces.markEN_le1 (p : TPlaces) (k : Int) : k + 1 ≤ p.markEN k := by unfold TPlaces.markEN TPlaces.markN; omega
def TAtlas.mark (a : TAtlas) (k : Int) : TAtlas := ⟨marksN TPlaces.markE TPlaces.markEN a.Maps k, marks (fun k : Int => k) 1 a.Knows.length (countN TPlaces.markEN a.Maps k)⟩
def TAtlas.markN (a : TAtlas) (k : Int) : Int := countN TPlaces.markEN a.Maps k + 1 * a.Knows.length
def TAtlas.ocs (a : TAtlas) (x : Value × Value × List (Value × Value)) : List AV := [AV.is x.1, AV.is x.2.1]
end Go.M

namespace Go.AV
section
variable {T X : Type} {ow : T → X → List Own} {ocs : T → X → List AV} {cs : T → List AV}
theorem AX8 {own : List Own} {v : Value} {t : TypeId} {sz : Nat} {l : List T} {xs : List X} (ok : T → X → Prop) (hlc : ∀ p x, ok p x → (∀ o ∈ ow p x, o ∈ own) → LendC own (ocs p x) (cs p)) (hlen : xs.length = l.length) (hk : ∀ (i : Nat) (p : T) (x : X), l[i]? = some p → xs[i]? = some x → ok p x) (i : Nat) (hi : own[i]? = some (.arr v t sz (nrows ocs l xs))) (hm : ∀ o ∈ nin ow l xs, o ∈ own) : LendTo own (AV.is v) (AV.list sz (l.map cs)) :=
  d5 (H5 hi) ⟨by rw [X0 hlen, A6], fun j a b ha hb => by
    rw [List.getElem?_map] at hb
    cases hp : l[j]? with
    | none => rw [hp] at hb; cases hb
    | some p =>
      rw [hp] at hb
      have hj := (List.getElem?_eq_some_iff.1 hp).1
      obtain ⟨x, hx⟩ : ∃ x, xs[j]? = some x := ⟨_, List.getElem?_eq_getElem (by omega)⟩
      rw [AV3 hp hx] at ha
      injection ha with ha; injection hb with hb; subst ha; subst hb
      exact hlc p x (hk j p x hp hx) fun o ho => hm o (An6 hp hx o ho)⟩
end
end Go.AV
namespace Go.M
open Go.AV
def THeld.markE (p : THeld) (k : Int) : THeld := ⟨k, k + 1, k + 1 + 1, marks markText 1 p.Reads.length (k + 1 + 1 + 1), marks mkWrite 3 p.Writes.length (k + 1 + 1 + 1 + 1 * p.Reads.length)⟩
def THeld.markEN (p : THeld) (k : Int) : Int := k + 1 + 1 + 1 + 1 * p.Reads.length + 3 * p.Writes.length
theorem THeld.markEN_le (p : THeld) (k : Int) : k ≤ p.markEN k := by unfold THeld.markEN; omega
theorem THeld.markEN_le1 (p : THeld) (k : Int) : k + 1 ≤ p.markEN k := by unfold THeld.markEN; omega
theorem AQ9 : ∀ (l : List THeld) (k : Int), countN THeld.markEN l k ≤ k + 3 * sizeL THeld.size l
  | [], k => by simp [countN, sizeL]
  | p :: l, k => by
    unfold countN
    have h1 := AQ9 l (p.markEN k)
    have h2 : p.markEN k ≤ k + 3 * p.size + 3 := by
      unfold THeld.markEN THeld.size
      have h3 : p.Reads.length ≤ sizeL (fun x : Str => x.length) p.Reads := L4
      have h4 : p.Writes.length ≤ sizeL TWrite.size p.Writes := L4
      omega
    unfold sizeL at *
    simp only [K0, List.map_cons, List.sum_cons] at *
    omega
def TState.mark (s : TState) (k : Int) : TState := ⟨s.Floor, marksN TCell.markE TCell.markEN s.Cells k, marksN THeld.markE THeld.markEN s.Held (countN TCell.markEN s.Cells k), marks mkTold 3 s.Told.length (countN THeld.markEN s.Held (countN TCell.markEN s.Cells k))⟩
def TState.markN (s : TState) (k : Int) : Int := countN THeld.markEN s.Held (countN TCell.markEN s.Cells k) + 3 * s.Told.length
def TState.markE (s : TState) (k : Int) : TState := ⟨k, (s.mark (k + 1)).Cells, (s.mark (k + 1)).Held, (s.mark (k + 1)).Told⟩
def TState.markEN (s : TState) (k : Int) : Int := s.markN (k + 1)
theorem TState.markN_le (s : TState) (k : Int) : k ≤ s.markN k := by
  unfold TState.markN
  have h1 := e7 TCell.markEN_le s.Cells k
  have h2 := e7 THeld.markEN_le s.Held (countN TCell.markEN s.Cells k)
  omega
theorem TState.markEN_le (p : TState) (k : Int) : k ≤ p.markEN k := by have := p.markN_le (k + 1); unfold TState.markEN; omega
theorem TState.markEN_le1 (p : TState) (k : Int) : k + 1 ≤ p.markEN k := by have := p.markN_le (k + 1); unfold TState.markEN; omega
theorem TState.markN_size (s : TState) (k : Int) : s.markN k ≤ k + 3 * s.size := by
  unfold TState.markN TState.size
  have h1 := AJ5 s.Cells k
  have h2 := AQ9 s.Held (countN TCell.markEN s.Cells k)
  omega
theorem AH8 : ∀ (l : List TState) (k : Int), countN TState.markEN l k ≤ k + 3 * sizeL TState.size l
  | [], k => by simp [countN, sizeL]
  | p :: l, k => by
    unfold countN
    have h1 := AH8 l (p.markEN k)
    have h2 : p.markEN k ≤ k + 3 * p.size + 3 := by have := p.markN_size (k + 1); unfold TState.markEN; omega
    unfold sizeL at *
    simp only [K0, List.map_cons, List.sum_cons] at *
    omega
end Go.M

set_option maxHeartbeats 1000000
namespace Go.Proofs.YtkegepoihkhihaaGreat
open Go Go.AV Go.M
attribute [local irreducible] OpW OpA OpS AWP FSpec ESpec GSpec OpE RetOk RetOkG RvDen Le Ev GuardIs SrcIs
end Go.Proofs.YtkegepoihkhihaaGreat

namespace Go.Proofs.YtkegepoihkhihaaGreat
open Go Go.AV Go.M
attribute [local irreducible] OpW OpA OpS AWP FSpec ESpec GSpec OpE RetOk RetOkG RvDen Le Ev GuardIs SrcIs
theorem As3 (a : TCell) (hs : a.size ≤ 1048576) : GSpec Tryz.prog 88 [AV.agg a.cs] [] (fun _ : Value => True) (fun x => TCell.ow a x) (fun x => AV.agg (TCell.ocs a x)) := by
 unfold TCell.size at hs
 refine K4 Tryz.func88 rfl Tryz.ntmps88 rfl ?_
 refine A3 (A2 ?_)
 refine I6 rfl rfl rfl rfl (A0 rfl) ?_
 intro b1
 refine I2 rfl rfl rfl rfl Tryz.zeroValue125 rfl ?_
 intro b2
 refine A4 (A3 (A2 ?_))
 refine I2 rfl rfl rfl rfl Tryz.zeroValue125 rfl ?_
 intro b3
 refine A4 (A3 (A2 ?_))
 refine A1 rfl (B5 0 rfl T5 rfl D2 (A0 rfl) rfl) ?_
 refine A1 rfl (B2 2 rfl (A0 rfl) rfl E6 rfl) ?_
 refine A1 rfl (B5 0 rfl F9 rfl D2 (A0 rfl) rfl) ?_
 refine K2 0 rfl rfl rfl (A0 rfl) (A0 rfl) (S5 _) rfl D2 rfl ?_
 refine A4 (A3 (A2 ?_))
 refine A1 rfl (B5 1 rfl T5 rfl Tryz.sizeOf132 (A0 rfl) rfl) ?_
 refine A1 rfl (B2 2 rfl (A0 rfl) rfl Tryz.isAgg132 rfl) ?_
 refine S9 [] rfl rfl rfl rfl Tryz.call133 rfl (Ar4 _ (by first | assumption | omega)) (A8 (A0 rfl) C8) rfl ?_
 intro x9 ok9
 refine A1 rfl (B5 1 rfl F9 rfl L2 (A0 rfl) rfl) ?_
 refine s6 0 rfl fun one_x9 => ?_
 refine K2 1 rfl rfl rfl (A0 rfl) (A0 rfl) (AI0 one_x9) rfl L2 rfl ?_
 refine A4 (A3 (A2 ?_))
 refine A1 rfl (L5 1 rfl (A0 rfl) rfl O0 F2 rfl) ?_
 refine G9 2 rfl rfl rfl (A0 rfl) (A0 rfl) (I7 _) rfl F2 rfl ?_
 refine A4 ?_
 refine B8 ?_
 exact U7 [0] x9 (trivial) rfl (by rfl) (V6 rfl (S6 (ys := _) 2 rfl rfl O0 F2 rfl))
theorem Al4 (l : List TCell) (hs : sizeL TCell.size l ≤ 1048576) : GSpec Tryz.prog 47 [AV.list 2 (l.map TCell.cs)] [] (fun x : Value × List Value => x.2.length = l.length) (fun x => .arr x.1 125 2 (nrows TCell.ocs l x.2) :: nin TCell.ow l x.2) (fun x => AV.is x.1) := by
 have hsl : l.length ≤ 1048576 := Nat.le_trans L4 hs
 refine K4 Tryz.func47 rfl Tryz.ntmps47 rfl ?_
 refine A3 (A2 ?_)
 refine A1 rfl (A7 rfl S0) ?_
 refine A4 (A3 (A2 ?_))
 refine A5 rfl ?_
 refine A1 rfl (E7 rfl Q5 (A0 rfl)) ?_
 refine W1 (by' := 40) rfl rfl rfl rfl F3 Tryz.type125 rfl rfl rfl rfl rfl rfl (A0 rfl) (A0 rfl) (by simp only [A6]; omega) (by simp only [A6]; omega) ?_
 intro v7
 refine B1 rfl ?_
 refine A4 (A3 (A3 (A2 ?_)))
 refine A1 rfl (A7 rfl B4) ?_
 refine A4 (C3 ?_)
 refine J7 [(0, _), (2, _), (3, _)] [] (fun (i : Nat) (xs : List Value) => i ≤ l.length ∧ xs.length = i) (fun (i : Nat) (xs : List Value) => [.arr v7 125 2 (nrows TCell.ocs (l.take i) xs ++ List.replicate (l.length - i) [AV.str [], AV.nils])] ++ (nin TCell.ow (l.take i) xs)) (fun (i : Nat) (xs : List Value) => [(4, AV.int i)]) (fun (i : Nat) (xs : List Value) => l.length - i) (0) ([]) ?_ (J9 (by simp only [A6]; rfl) ⟨rfl, rfl, rfl, rfl, trivial⟩) ?_
 ·exact ⟨Nat.zero_le _, rfl⟩
 intro i xs hinv
 refine s7 (List.append_nil _) ?_
 refine A3 (A3 (A2 ?_))
 refine A5 rfl ?_
 refine A5 rfl ?_
 refine A1 rfl (E7 rfl Q5 (A0 rfl)) ?_
 refine A1 rfl (F7 rfl (A0 rfl) (A0 rfl)) ?_
 refine A4 ?_
 refine C0 (A0 rfl) ?_ ?_
 ·intro h11
  have k11 := of_decide_eq_true h11; try simp only [A6] at k11
  have hlt : i < l.length := by omega
  obtain ⟨x, hx⟩ := get_some hlt
  have hsx : TCell.size x ≤ 1048576 := Nat.le_trans (Q1 hx) hs
  refine C1 (A3 (C3 (A2 ?_)))
  refine A5 rfl ?_
  refine A5 rfl ?_
  refine A5 rfl ?_
  refine A5 rfl ?_
  refine A1 rfl (N5 rfl Q5 X8 (A0 rfl) (A0 rfl) (by omega) (by simp only [Int.toNat_natCast, List.getElem?_map, hx, Option.map_some]; try rfl)) ?_
  refine A1 rfl (H0 rfl (A0 rfl) Tryz.isAgg134 X8) ?_
  refine S9 [] rfl rfl rfl rfl Tryz.call88 rfl (As3 _ (by assumption)) (A8 (A0 rfl) C8) rfl ?_
  intro x20 ok20
  refine A1 rfl (K9 1 rfl F3 F2 (A0 rfl) rfl (A0 rfl) (by omega) (by rw [l0 hinv.1 hinv.2]; omega)) ?_
  refine R8 1 rfl rfl rfl (A0 rfl) (A0 rfl) (I7 _) rfl F2 rfl (by rw [l0 hinv.1 hinv.2]; omega) ?_
  refine A4 ?_
  refine AWP.le (P2 [1, 0] rfl) ?_
  refine AWP.le (g6 1 (t := nin TCell.ow (l.take (i + 1)) (xs ++ [x20])) (AL8 (ow := TCell.ow) (x := x20) hx hinv.2)) ?_
  refine A2 ?_
  refine A5 rfl ?_
  refine A1 rfl (E9 rfl (A0 rfl) B4 (by first | omega | (simp only [D3, B0, szR] at *; omega))) ?_
  refine B1 rfl ?_
  refine A4 ?_
  refine J5 i xs (i + 1) (xs ++ [x20]) ?_ ?_ (J9 (Eq.trans (by exact congrArg (fun z => Own.arr _ _ _ z :: _) (AC5 hx hinv.2)) (List.append_nil _).symm) ⟨rfl, rfl, rfl, rfl, trivial⟩)
  ·exact ⟨by omega, by rw [I5, hinv.2]; rfl⟩
  omega
 intro h11
 have k11 := of_decide_eq_false h11; try simp only [A6] at k11
 have hge : i = l.length := by omega
 have hxs := hinv.2.trans hge
 rw [show l.take i = l from List.take_of_length_le (by omega), show l.length - i = 0 by omega, List.replicate_zero, List.append_nil]
 refine F1 ?_
 refine A3 (A2 ?_)
 refine A5 rfl ?_
 refine B1 rfl ?_
 refine A4 ?_
 refine B8 ?_
 exact AC4 [0] 0 (nin TCell.ow l xs) [] (v7, xs) (hxs) rfl (show List.Perm (nin TCell.ow l xs) ((nin TCell.ow l xs) ++ []) from d9) (by rfl) (V6 rfl (B7 rfl (by first | rfl | (refine congrArg AV.bool ?_; simp_all; done))))
theorem AU2 (v : Value) (l : List TCell) (xs : List Value) (k : Int) (hl : xs.length = l.length) (h : 0 ≤ k ∧ countN TCell.markEN l k ≤ 4611686018427387904) : GSpec Tryz.prog 58 [AV.is v, AV.int k] (.arr v 125 2 (nrows TCell.ocs l xs) :: nin TCell.ow l xs) (fun _ : Unit => True) (fun _ => .arr v 125 2 (nrows TCell.ocs (marksN TCell.markE TCell.markEN l k) xs) :: nin TCell.ow (marksN TCell.markE TCell.markEN l k) xs) (fun _ => AV.int (countN TCell.markEN l k)) := by
 have hll := s3 TCell.markEN_le1 l k
 refine K4 Tryz.func58 rfl Tryz.ntmps58 rfl ?_
 refine A3 (A2 ?_)
 refine A1 rfl (A7 rfl B4) ?_
 refine A4 (A3 (A3 (A2 ?_)))
 refine A1 rfl (A7 rfl B4) ?_
 refine A4 (C3 ?_)
 refine J7 [(0, _), (4, _)] [] (fun (i : Nat) (c : Int) => i ≤ l.length ∧ c = countN TCell.markEN (l.take i) k) (fun (i : Nat) (c : Int) => [.arr v 125 2 (nrows TCell.ocs (midN TCell.markE TCell.markEN l k i) xs)] ++ (nin TCell.ow (midN TCell.markE TCell.markEN l k i) xs)) (fun (i : Nat) (c : Int) => [(1, AV.int c), (5, AV.int i)]) (fun (i : Nat) (c : Int) => l.length - i) (0) (k) ?_ (J9 (by rw [AG2, List.append_nil]; rfl) ⟨rfl, rfl, rfl, rfl, trivial⟩) ?_
 ·exact ⟨Nat.zero_le _, rfl⟩
 intro i c hinv
 refine s7 (List.append_nil _) ?_
 refine A3 (A3 (A2 ?_))
 refine A5 rfl ?_
 refine A5 rfl ?_
 refine A1 rfl (V3 0 rfl F3 (A0 rfl) rfl) ?_
 refine A1 rfl (F7 rfl (A0 rfl) (A0 rfl)) ?_
 refine A4 ?_
 refine C0 (A0 rfl) ?_ ?_
 ·intro h9
  have k9 := of_decide_eq_true h9; try simp only [A6] at k9
  simp only [X0 (hl.trans (L7 hinv.1).symm), L7 hinv.1] at k9
  have hlt : i < l.length := by omega
  obtain ⟨p0, hq⟩ := get_some hlt
  have hp := AM0 (mk := TCell.markE) (mn := TCell.markEN) (k := k) hq
  obtain ⟨x, hx⟩ := get_some (show i < xs.length by omega)
  have hstep := AG3 (mk := TCell.markE) (mn := TCell.markEN) (k := k) hq
  rw [← hinv.2] at hstep
  have hct := Y6 TCell.markEN_le l (i + 1) k
  have hc0 := Y6 TCell.markEN_le l i k
  rw [Y5 hq, ← hinv.2] at hct
  rw [← hinv.2] at hc0
  have hce : TCell.markEN p0 c = c + 1 + 3 * p0.Vers.length := rfl
  rw [i7 hp hx]
  refine C1 (A3 (C3 (A3 ?_)))
  refine AWP.le (g6 1 (t := (TCell.ow p0 x) ++ (nin TCell.ow ((midN TCell.markE TCell.markEN l k i).eraseIdx i) (xs.eraseIdx i))) (s8 (ow := TCell.ow) hp hx)) ?_
  refine A2 ?_
  refine A5 rfl ?_
  refine A5 rfl ?_
  refine A5 rfl ?_
  refine A1 rfl (D8 rfl Tryz.call61 rfl (T7 _ (by omega)) (A8 (A0 rfl) C8)) ?_
  refine A1 rfl (K9 0 rfl F3 F2 (A0 rfl) rfl (A0 rfl) (by omega) (by rw [U3 hp hx (hl.trans (L7 hinv.1).symm), L7 hinv.1]; omega)) ?_
  refine A1 rfl (R7 0 rfl F9 rfl D2 (A0 rfl) rfl rfl (N9 (N6 hp hx))) ?_
  refine P1 0 rfl rfl rfl (A0 rfl) (A0 rfl) (S5 _) rfl D2 (N6 hp hx) rfl ?_
  refine A4 (A3 (A2 ?_))
  refine A5 rfl ?_
  refine A1 rfl (E9 rfl (A0 rfl) B4 (by first | omega | (simp only [D3, B0, szR] at *; omega))) ?_
  refine B1 rfl ?_
  refine A4 (A2 ?_)
  refine A5 rfl ?_
  refine A5 rfl ?_
  refine A1 rfl (K9 0 rfl F3 F2 (A0 rfl) rfl (A0 rfl) (by omega) (by rw [U3 hp hx (hl.trans (L7 hinv.1).symm), L7 hinv.1]; omega)) ?_
  refine A1 rfl (R7 0 rfl F9 rfl L2 (A0 rfl) rfl rfl (N9 (N6 hp hx))) ?_
  refine A1 rfl (n4 0 rfl (A0 rfl) rfl O1 (N9 (N6 hp hx)) rfl) ?_
  refine A5 rfl ?_
  refine S9 [1] rfl rfl rfl rfl Tryz.call98 rfl (AZ7 _ _ _ (by first | assumption | first | omega | (refine ⟨by omega, ?_⟩; simp only [H2] at *; omega))) (A8 (A0 rfl) (A8 (A0 rfl) C8)) rfl ?_
  intro x26 ok26
  refine B1 rfl ?_
  refine A4 ?_
  refine AWP.le (P2 [1, 0] rfl) ?_
  refine AWP.le (g6 1 (t := nin TCell.ow (midN TCell.markE TCell.markEN l k (i + 1)) xs) ((hstep ▸ AR8 (ow := TCell.ow) (p' := TCell.markE p0 c) hp hx))) ?_
  refine A2 ?_
  refine A5 rfl ?_
  refine A1 rfl (E9 rfl (A0 rfl) B4 (by first | omega | (simp only [D3, B0, szR] at *; omega))) ?_
  refine B1 rfl ?_
  refine A4 ?_
  refine J5 i c (i + 1) (TCell.markEN p0 c) ?_ ?_ (J9 (Eq.trans (by exact congrArg (fun z => Own.arr _ _ _ z :: _) ((AC6 hp hx).trans (congrArg (fun z => nrows TCell.ocs z xs) hstep))) (List.append_nil _).symm) ⟨rfl, rfl, rfl, rfl, trivial⟩)
  ·exact ⟨by omega, by rw [Y5 hq, hinv.2]⟩
  omega
 intro h9
 have k9 := of_decide_eq_false h9; try simp only [A6] at k9
 simp only [X0 (hl.trans (L7 hinv.1).symm), L7 hinv.1] at k9
 have hge : l.length ≤ i := by omega
 rw [AL9 hge]
 refine F1 ?_
 refine A3 (A2 ?_)
 refine A5 rfl ?_
 refine B1 rfl ?_
 refine A4 ?_
 refine B8 ?_
 exact AC4 [0] 0 (nin TCell.ow (marksN TCell.markE TCell.markEN l k) xs) [] () (trivial) rfl (show List.Perm (nin TCell.ow (marksN TCell.markE TCell.markEN l k) xs) ((nin TCell.ow (marksN TCell.markE TCell.markEN l k) xs) ++ []) from d9) (by rfl) (V6 rfl (B7 rfl (by exact congrArg AV.int (by rw [hinv.2, List.take_of_length_le hge]))))
end Go.Proofs.YtkegepoihkhihaaGreat
