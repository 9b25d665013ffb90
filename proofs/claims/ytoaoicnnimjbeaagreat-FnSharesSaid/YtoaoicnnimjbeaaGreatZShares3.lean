/- Texts of the claim, part 3. -/
import Derived.Test.YtoaoicnnimjbeaaGreatRows
import Derived.Laws.BytesArg
import Derived.Test.YtoaoicnnimjbeaaGreatZShares2

set_option linter.unusedVariables false
set_option linter.unusedSimpArgs false
set_option maxRecDepth 100000
namespace Go.Proofs.YtoaoicnnimjbeaaGreat
open Go Go.AV Go.M
attribute [local irreducible] OpW OpA OpS AWP FSpec ESpec RetOk RvDen Le Ev GuardIs
theorem AQ7 (l : List TWrite) (pre : TWrite → Prop) (f : TWrite → Bool) (hp : ∀ x ∈ l, pre x) : FSpec Tryz.prog 155 [AV.list 3 (l.map TWrite.cs), AV.fun1 Tryz.prog pre (fun a => AV.agg a.cs) (fun a => AV.bool (f a))] (AV.int (idxFrom f l 0)) := by
 refine E2 Tryz.func155 rfl Tryz.ntmps155 rfl ?_
 refine U5 (t := 0) rfl fun hl => ?_
 try simp only [A8] at hl
 refine A3 (A2 ?_)
 refine A1 rfl (B6 rfl B4) ?_
 refine A4 (A3 (A3 (A2 ?_)))
 refine A5 rfl ?_
 refine A1 rfl (F6 rfl D1 (A0 rfl)) ?_
 refine A1 rfl (B8 rfl B4) ?_
 refine A4 (C7 ?_)
 refine J0 [(0, _), (1, _), (7, _)] _ (fun (i : Nat) => i ≤ l.length ∧ idxFrom f l 0 = idxFrom f (l.drop i) i) (fun (i : Nat) => []) (fun (i : Nat) => [(8, AV.int i)]) (fun (i : Nat) => l.length - i) (0) ?_ (K2 ⟨rfl, rfl, rfl, rfl, trivial⟩) ?_
 ·exact ⟨Nat.zero_le _, rfl⟩
 intro i hinv
 refine A3 (A2 ?_)
 refine A1 rfl (J8 rfl (A0 rfl) (A0 rfl)) ?_
 refine A4 (A3 ?_)
 refine B9 (A0 rfl) ?_ ?_
 ·intro h9
  have k9 := of_decide_eq_true h9; try simp only [A8] at k9
  have hlt : i < l.length := by omega
  obtain ⟨x, hx⟩ := get_some hlt
  refine C3 (A3 (C7 (A3 (A2 ?_))))
  refine A5 rfl ?_
  refine B3 rfl ?_
  refine A4 (A3 (A2 ?_))
  refine A5 rfl ?_
  refine A5 rfl ?_
  refine A5 rfl ?_
  refine A1 rfl (I2 rfl D1 E5 (A0 rfl) (A0 rfl) hx (by first | omega | (simp only [C8, A7, szR] at *; omega))) ?_
  refine A1 rfl (K6 rfl (A0 rfl) P8 E5) ?_
  refine A1 rfl (AM3 rfl (A0 rfl) x (hp x (F9 hx)) (A0 rfl)) ?_
  refine A4 ?_
  refine B9 (A0 rfl) ?_ ?_
  ·intro h16
   refine A3 (A2 ?_)
   refine A5 rfl ?_
   refine B3 rfl ?_
   refine A4 ?_
   refine C2 ?_
   exact I3 rfl (C1 rfl (by first | exact congrArg AV.int (by rw [hinv.2, drop_some hx, idxFrom, h16]; rfl) | exact congrArg AV.int (by rw [hinv.2, List.drop_eq_nil_of_le hge]; rfl)))
  intro h16
  refine C3 (A2 ?_)
  refine A1 rfl (G0 rfl (A0 rfl) B4 (by first | omega | (simp only [C8, A7, szR] at *; omega))) ?_
  refine A5 rfl ?_
  refine A4 ?_
  refine K4 i (i + 1) ?_ ?_ (K2 ⟨rfl, rfl, rfl, rfl, trivial⟩)
  ·exact ⟨by omega, by rw [hinv.2, drop_some hx, idxFrom, h16]; simp⟩
  omega
 intro h9
 have k9 := of_decide_eq_false h9; try simp only [A8] at k9
 have hge : l.length ≤ i := by omega
 refine G1 ?_
 refine A3 (A2 ?_)
 refine A1 rfl (B6 rfl B4) ?_
 refine A4 ?_
 refine C2 ?_
 exact I3 rfl (C1 rfl (by first | exact congrArg AV.int (by rw [hinv.2, drop_some hx, idxFrom, h16]; rfl) | exact congrArg AV.int (by rw [hinv.2, List.drop_eq_nil_of_le hge]; rfl)))
theorem m1 (l : List TWrite) (pre : TWrite → Prop) (f : TWrite → Bool) (hp : ∀ x ∈ l, pre x) : FSpec Tryz.prog 114 [AV.list 3 (l.map TWrite.cs), AV.fun1 Tryz.prog pre (fun a => AV.agg a.cs) (fun a => AV.bool (f a))] (AV.bool (l.any f)) := by
 refine E2 Tryz.func114 rfl Tryz.ntmps114 rfl ?_
 refine A3 (A2 ?_)
 refine A1 rfl (B6 rfl E9) ?_
 refine A4 (A3 (A2 ?_))
 refine A5 rfl ?_
 refine A5 rfl ?_
 refine A1 rfl (D7 rfl Tryz.call155 rfl (AQ7 _ _ _ (by first | (intros; trivial) | assumption | (intros; first | trivial | (simp_all; done)))) (A6 (A0 rfl) (A6 (A0 rfl) C0))) ?_
 refine A1 rfl (f5 rfl (A0 rfl) B4) ?_
 refine B3 rfl ?_
 refine A4 ?_
 refine C2 ?_
 exact I3 rfl (C1 rfl (by exact congrArg AV.bool (n9 f l 0 (Int.le_refl 0))))
theorem AT5 (l : List THeld) (pre : THeld → Prop) (f : THeld → Bool) (hp : ∀ x ∈ l, pre x) : FSpec Tryz.prog 165 [AV.list 5 (l.map THeld.cs), AV.fun1 Tryz.prog pre (fun a => AV.agg a.cs) (fun a => AV.bool (f a))] (AV.int (idxFrom f l 0)) := by
 refine E2 Tryz.func165 rfl Tryz.ntmps165 rfl ?_
 refine U5 (t := 0) rfl fun hl => ?_
 try simp only [A8] at hl
 refine A3 (A2 ?_)
 refine A1 rfl (B6 rfl B4) ?_
 refine A4 (A3 (A3 (A2 ?_)))
 refine A5 rfl ?_
 refine A1 rfl (F6 rfl E4 (A0 rfl)) ?_
 refine A1 rfl (B8 rfl B4) ?_
 refine A4 (C7 ?_)
 refine J0 [(0, _), (1, _), (7, _)] _ (fun (i : Nat) => i ≤ l.length ∧ idxFrom f l 0 = idxFrom f (l.drop i) i) (fun (i : Nat) => []) (fun (i : Nat) => [(8, AV.int i)]) (fun (i : Nat) => l.length - i) (0) ?_ (K2 ⟨rfl, rfl, rfl, rfl, trivial⟩) ?_
 ·exact ⟨Nat.zero_le _, rfl⟩
 intro i hinv
 refine A3 (A2 ?_)
 refine A1 rfl (J8 rfl (A0 rfl) (A0 rfl)) ?_
 refine A4 (A3 ?_)
 refine B9 (A0 rfl) ?_ ?_
 ·intro h9
  have k9 := of_decide_eq_true h9; try simp only [A8] at k9
  have hlt : i < l.length := by omega
  obtain ⟨x, hx⟩ := get_some hlt
  refine C3 (A3 (C7 (A3 (A2 ?_))))
  refine A5 rfl ?_
  refine B3 rfl ?_
  refine A4 (A3 (A2 ?_))
  refine A5 rfl ?_
  refine A5 rfl ?_
  refine A5 rfl ?_
  refine A1 rfl (I2 rfl E4 D5 (A0 rfl) (A0 rfl) hx (by first | omega | (simp only [C8, A7, szR] at *; omega))) ?_
  refine A1 rfl (K6 rfl (A0 rfl) K3 D5) ?_
  refine A1 rfl (AM3 rfl (A0 rfl) x (hp x (F9 hx)) (A0 rfl)) ?_
  refine A4 ?_
  refine B9 (A0 rfl) ?_ ?_
  ·intro h16
   refine A3 (A2 ?_)
   refine A5 rfl ?_
   refine B3 rfl ?_
   refine A4 ?_
   refine C2 ?_
   exact I3 rfl (C1 rfl (by first | exact congrArg AV.int (by rw [hinv.2, drop_some hx, idxFrom, h16]; rfl) | exact congrArg AV.int (by rw [hinv.2, List.drop_eq_nil_of_le hge]; rfl)))
  intro h16
  refine C3 (A2 ?_)
  refine A1 rfl (G0 rfl (A0 rfl) B4 (by first | omega | (simp only [C8, A7, szR] at *; omega))) ?_
  refine A5 rfl ?_
  refine A4 ?_
  refine K4 i (i + 1) ?_ ?_ (K2 ⟨rfl, rfl, rfl, rfl, trivial⟩)
  ·exact ⟨by omega, by rw [hinv.2, drop_some hx, idxFrom, h16]; simp⟩
  omega
 intro h9
 have k9 := of_decide_eq_false h9; try simp only [A8] at k9
 have hge : l.length ≤ i := by omega
 refine G1 ?_
 refine A3 (A2 ?_)
 refine A1 rfl (B6 rfl B4) ?_
 refine A4 ?_
 refine C2 ?_
 exact I3 rfl (C1 rfl (by first | exact congrArg AV.int (by rw [hinv.2, drop_some hx, idxFrom, h16]; rfl) | exact congrArg AV.int (by rw [hinv.2, List.drop_eq_nil_of_le hge]; rfl)))
theorem AK4 (l : List THeld) (pre : THeld → Prop) (f : THeld → Bool) (hp : ∀ x ∈ l, pre x) : FSpec Tryz.prog 131 [AV.list 5 (l.map THeld.cs), AV.fun1 Tryz.prog pre (fun a => AV.agg a.cs) (fun a => AV.bool (f a))] (AV.bool (l.any f)) := by
 refine E2 Tryz.func131 rfl Tryz.ntmps131 rfl ?_
 refine A3 (A2 ?_)
 refine A1 rfl (B6 rfl E9) ?_
 refine A4 (A3 (A2 ?_))
 refine A5 rfl ?_
 refine A5 rfl ?_
 refine A1 rfl (D7 rfl Tryz.call165 rfl (AT5 _ _ _ (by first | (intros; trivial) | assumption | (intros; first | trivial | (simp_all; done)))) (A6 (A0 rfl) (A6 (A0 rfl) C0))) ?_
 refine A1 rfl (f5 rfl (A0 rfl) B4) ?_
 refine B3 rfl ?_
 refine A4 ?_
 refine C2 ?_
 exact I3 rfl (C1 rfl (by exact congrArg AV.bool (n9 f l 0 (Int.le_refl 0))))
theorem AQ8 (l : List TState) (pre : TState → Prop) (f : TState → Bool) (hp : ∀ x ∈ l, pre x) : FSpec Tryz.prog 92 [AV.list 4 (l.map TState.cs), AV.fun1 Tryz.prog pre (fun a => AV.agg a.cs) (fun a => AV.bool (f a))] (AV.int (idxFrom f l 0)) := by
 refine E2 Tryz.func92 rfl Tryz.ntmps92 rfl ?_
 refine U5 (t := 0) rfl fun hl => ?_
 try simp only [A8] at hl
 refine A3 (A2 ?_)
 refine A1 rfl (B6 rfl B4) ?_
 refine A4 (A3 (A3 (A2 ?_)))
 refine A5 rfl ?_
 refine A1 rfl (F6 rfl J2 (A0 rfl)) ?_
 refine A1 rfl (B8 rfl B4) ?_
 refine A4 (C7 ?_)
 refine J0 [(0, _), (1, _), (7, _)] _ (fun (i : Nat) => i ≤ l.length ∧ idxFrom f l 0 = idxFrom f (l.drop i) i) (fun (i : Nat) => []) (fun (i : Nat) => [(8, AV.int i)]) (fun (i : Nat) => l.length - i) (0) ?_ (K2 ⟨rfl, rfl, rfl, rfl, trivial⟩) ?_
 ·exact ⟨Nat.zero_le _, rfl⟩
 intro i hinv
 refine A3 (A2 ?_)
 refine A1 rfl (J8 rfl (A0 rfl) (A0 rfl)) ?_
 refine A4 (A3 ?_)
 refine B9 (A0 rfl) ?_ ?_
 ·intro h9
  have k9 := of_decide_eq_true h9; try simp only [A8] at k9
  have hlt : i < l.length := by omega
  obtain ⟨x, hx⟩ := get_some hlt
  refine C3 (A3 (C7 (A3 (A2 ?_))))
  refine A5 rfl ?_
  refine B3 rfl ?_
  refine A4 (A3 (A2 ?_))
  refine A5 rfl ?_
  refine A5 rfl ?_
  refine A5 rfl ?_
  refine A1 rfl (I2 rfl J2 C5 (A0 rfl) (A0 rfl) hx (by first | omega | (simp only [C8, A7, szR] at *; omega))) ?_
  refine A1 rfl (K6 rfl (A0 rfl) F0 C5) ?_
  refine A1 rfl (AM3 rfl (A0 rfl) x (hp x (F9 hx)) (A0 rfl)) ?_
  refine A4 ?_
  refine B9 (A0 rfl) ?_ ?_
  ·intro h16
   refine A3 (A2 ?_)
   refine A5 rfl ?_
   refine B3 rfl ?_
   refine A4 ?_
   refine C2 ?_
   exact I3 rfl (C1 rfl (by first | exact congrArg AV.int (by rw [hinv.2, drop_some hx, idxFrom, h16]; rfl) | exact congrArg AV.int (by rw [hinv.2, List.drop_eq_nil_of_le hge]; rfl)))
  intro h16
  refine C3 (A2 ?_)
  refine A1 rfl (G0 rfl (A0 rfl) B4 (by first | omega | (simp only [C8, A7, szR] at *; omega))) ?_
  refine A5 rfl ?_
  refine A4 ?_
  refine K4 i (i + 1) ?_ ?_ (K2 ⟨rfl, rfl, rfl, rfl, trivial⟩)
  ·exact ⟨by omega, by rw [hinv.2, drop_some hx, idxFrom, h16]; simp⟩
  omega
 intro h9
 have k9 := of_decide_eq_false h9; try simp only [A8] at k9
 have hge : l.length ≤ i := by omega
 refine G1 ?_
 refine A3 (A2 ?_)
 refine A1 rfl (B6 rfl B4) ?_
 refine A4 ?_
 refine C2 ?_
 exact I3 rfl (C1 rfl (by first | exact congrArg AV.int (by rw [hinv.2, drop_some hx, idxFrom, h16]; rfl) | exact congrArg AV.int (by rw [hinv.2, List.drop_eq_nil_of_le hge]; rfl)))
theorem AI2 (l : List TState) (pre : TState → Prop) (f : TState → Bool) (hp : ∀ x ∈ l, pre x) : FSpec Tryz.prog 56 [AV.list 4 (l.map TState.cs), AV.fun1 Tryz.prog pre (fun a => AV.agg a.cs) (fun a => AV.bool (f a))] (AV.bool (l.any f)) := by
 refine E2 Tryz.func56 rfl Tryz.ntmps56 rfl ?_
 refine A3 (A2 ?_)
 refine A1 rfl (B6 rfl E9) ?_
 refine A4 (A3 (A2 ?_))
 refine A5 rfl ?_
 refine A5 rfl ?_
 refine A1 rfl (D7 rfl Tryz.call92 rfl (AQ8 _ _ _ (by first | (intros; trivial) | assumption | (intros; first | trivial | (simp_all; done)))) (A6 (A0 rfl) (A6 (A0 rfl) C0))) ?_
 refine A1 rfl (f5 rfl (A0 rfl) B4) ?_
 refine B3 rfl ?_
 refine A4 ?_
 refine C2 ?_
 exact I3 rfl (C1 rfl (by exact congrArg AV.bool (n9 f l 0 (Int.le_refl 0))))
theorem AQ9 (l : List TOrder) (pre : TOrder → Prop) (f : TOrder → Bool) (hp : ∀ x ∈ l, pre x) : FSpec Tryz.prog 96 [AV.list 3 (l.map TOrder.cs), AV.fun1 Tryz.prog pre (fun a => AV.agg a.cs) (fun a => AV.bool (f a))] (AV.int (idxFrom f l 0)) := by
 refine E2 Tryz.func96 rfl Tryz.ntmps96 rfl ?_
 refine U5 (t := 0) rfl fun hl => ?_
 try simp only [A8] at hl
 refine A3 (A2 ?_)
 refine A1 rfl (B6 rfl B4) ?_
 refine A4 (A3 (A3 (A2 ?_)))
 refine A5 rfl ?_
 refine A1 rfl (F6 rfl I0 (A0 rfl)) ?_
 refine A1 rfl (B8 rfl B4) ?_
 refine A4 (C7 ?_)
 refine J0 [(0, _), (1, _), (7, _)] _ (fun (i : Nat) => i ≤ l.length ∧ idxFrom f l 0 = idxFrom f (l.drop i) i) (fun (i : Nat) => []) (fun (i : Nat) => [(8, AV.int i)]) (fun (i : Nat) => l.length - i) (0) ?_ (K2 ⟨rfl, rfl, rfl, rfl, trivial⟩) ?_
 ·exact ⟨Nat.zero_le _, rfl⟩
 intro i hinv
 refine A3 (A2 ?_)
 refine A1 rfl (J8 rfl (A0 rfl) (A0 rfl)) ?_
 refine A4 (A3 ?_)
 refine B9 (A0 rfl) ?_ ?_
 ·intro h9
  have k9 := of_decide_eq_true h9; try simp only [A8] at k9
  have hlt : i < l.length := by omega
  obtain ⟨x, hx⟩ := get_some hlt
  refine C3 (A3 (C7 (A3 (A2 ?_))))
  refine A5 rfl ?_
  refine B3 rfl ?_
  refine A4 (A3 (A2 ?_))
  refine A5 rfl ?_
  refine A5 rfl ?_
  refine A5 rfl ?_
  refine A1 rfl (I2 rfl I0 H4 (A0 rfl) (A0 rfl) hx (by first | omega | (simp only [C8, A7, szR] at *; omega))) ?_
  refine A1 rfl (K6 rfl (A0 rfl) Q4 H4) ?_
  refine A1 rfl (AM3 rfl (A0 rfl) x (hp x (F9 hx)) (A0 rfl)) ?_
  refine A4 ?_
  refine B9 (A0 rfl) ?_ ?_
  ·intro h16
   refine A3 (A2 ?_)
   refine A5 rfl ?_
   refine B3 rfl ?_
   refine A4 ?_
   refine C2 ?_
   exact I3 rfl (C1 rfl (by first | exact congrArg AV.int (by rw [hinv.2, drop_some hx, idxFrom, h16]; rfl) | exact congrArg AV.int (by rw [hinv.2, List.drop_eq_nil_of_le hge]; rfl)))
  intro h16
  refine C3 (A2 ?_)
  refine A1 rfl (G0 rfl (A0 rfl) B4 (by first | omega | (simp only [C8, A7, szR] at *; omega))) ?_
  refine A5 rfl ?_
  refine A4 ?_
  refine K4 i (i + 1) ?_ ?_ (K2 ⟨rfl, rfl, rfl, rfl, trivial⟩)
  ·exact ⟨by omega, by rw [hinv.2, drop_some hx, idxFrom, h16]; simp⟩
  omega
 intro h9
 have k9 := of_decide_eq_false h9; try simp only [A8] at k9
 have hge : l.length ≤ i := by omega
 refine G1 ?_
 refine A3 (A2 ?_)
 refine A1 rfl (B6 rfl B4) ?_
 refine A4 ?_
 refine C2 ?_
 exact I3 rfl (C1 rfl (by first | exact congrArg AV.int (by rw [hinv.2, drop_some hx, idxFrom, h16]; rfl) | exact congrArg AV.int (by rw [hinv.2, List.drop_eq_nil_of_le hge]; rfl)))
theorem AI3 (l : List TOrder) (pre : TOrder → Prop) (f : TOrder → Bool) (hp : ∀ x ∈ l, pre x) : FSpec Tryz.prog 59 [AV.list 3 (l.map TOrder.cs), AV.fun1 Tryz.prog pre (fun a => AV.agg a.cs) (fun a => AV.bool (f a))] (AV.bool (l.any f)) := by
 refine E2 Tryz.func59 rfl Tryz.ntmps59 rfl ?_
 refine A3 (A2 ?_)
 refine A1 rfl (B6 rfl E9) ?_
 refine A4 (A3 (A2 ?_))
 refine A5 rfl ?_
 refine A5 rfl ?_
 refine A1 rfl (D7 rfl Tryz.call96 rfl (AQ9 _ _ _ (by first | (intros; trivial) | assumption | (intros; first | trivial | (simp_all; done)))) (A6 (A0 rfl) (A6 (A0 rfl) C0))) ?_
 refine A1 rfl (f5 rfl (A0 rfl) B4) ?_
 refine B3 rfl ?_
 refine A4 ?_
 refine C2 ?_
 exact I3 rfl (C1 rfl (by exact congrArg AV.bool (n9 f l 0 (Int.le_refl 0))))
theorem AI4 (l : List TWrite) (v : Str) (pre : TWrite → Str → Prop) (hp : ∀ x ∈ l, pre x v) (f : TWrite → Str → Int) (hl2 : l.length ≤ 4611686018427387903) : FSpec Tryz.prog 150 [AV.list 3 (l.map TWrite.cs), AV.str v, AV.fun2 Tryz.prog pre (fun a => AV.agg a.cs) (fun b => AV.str b) (fun a b => AV.int (f a b))] (AV.tup [AV.int (bs (fun x => f x v) l 0 l.length), AV.bool (bsAt (fun x => f x v) l (bs (fun x => f x v) l 0 l.length))]) := by
 refine E2 Tryz.func150 rfl Tryz.ntmps150 rfl ?_
 refine U5 (t := 0) rfl fun hl => ?_
 try simp only [A8] at hl
 refine A3 (A2 ?_)
 refine A1 rfl (B6 rfl B4) ?_
 refine A1 rfl (B6 rfl E9) ?_
 refine A4 (A3 (A2 ?_))
 refine A5 rfl ?_
 refine A1 rfl (F6 rfl D1 (A0 rfl)) ?_
 refine B3 rfl ?_
 refine A4 (A3 (A2 ?_))
 refine A5 rfl ?_
 refine A1 rfl (B6 rfl B4) ?_
 refine B3 rfl ?_
 refine A4 (A3 (C7 ?_))
 refine P3 [(0, _), (1, _), (2, _), (6, _), (7, _), (8, _)] _ (fun (i : Nat) (j : Nat) => i ≤ j ∧ j ≤ l.length ∧ bs (fun x => f x v) l 0 l.length = bs (fun x => f x v) l i j) (fun (i : Nat) (j : Nat) => []) (fun (i : Nat) (j : Nat) => [(9, AV.int i), (10, AV.int j)]) (fun (i : Nat) (j : Nat) => j - i) (0) ((l.map TWrite.cs).length) ?_ (K2 ⟨rfl, rfl, rfl, rfl, rfl, rfl, rfl, rfl, trivial⟩) ?_
 ·exact ⟨Nat.zero_le _, by simp, by simp⟩
 intro i j hinv
 refine A3 (A3 (A2 ?_))
 refine A5 rfl ?_
 refine A5 rfl ?_
 refine A1 rfl (J8 rfl (A0 rfl) (A0 rfl)) ?_
 refine A4 ?_
 refine B9 (A0 rfl) ?_ ?_
 ·intro h17
  have k17 := of_decide_eq_true h17; try simp only [A8] at k17
  have hlt : i < j := by omega
  obtain ⟨x, hx⟩ := get_some (show (i + j) / 2 < l.length by omega)
  refine C3 (C7 (A3 (A2 ?_)))
  refine A5 rfl ?_
  refine A5 rfl ?_
  refine A1 rfl (G0 rfl (A0 rfl) (A0 rfl) (by omega)) ?_
  refine A1 rfl (o4 rfl (by kernel_rfl) Tryz.underlying141 (A0 rfl)) ?_
  refine A1 rfl (Ac8 rfl (A0 rfl) B4 (by decide) (by decide)) ?_
  refine A1 rfl (o4 rfl (by kernel_rfl) W6 (A0 rfl)) ?_
  refine B3 rfl ?_
  refine A4 (A3 (A2 ?_))
  rw [Ah1 (by omega)]
  refine A5 rfl ?_
  refine A5 rfl ?_
  refine A5 rfl ?_
  refine A1 rfl (I2 rfl D1 E5 (A0 rfl) (A0 rfl) hx (by first | omega | (simp only [C8, A7, szR] at *; omega))) ?_
  refine A1 rfl (K6 rfl (A0 rfl) P8 E5) ?_
  refine A5 rfl ?_
  refine A1 rfl (w9 rfl (A0 rfl) x v (hp x (F9 hx)) (A0 rfl) (A0 rfl)) ?_
  refine A1 rfl (J8 rfl (A0 rfl) B4) ?_
  refine A4 ?_
  refine B9 (A0 rfl) ?_ ?_
  ·intro h31
   have k31 := of_decide_eq_true h31; try simp only [A8] at k31
   refine A2 ?_
   refine A5 rfl ?_
   refine A1 rfl (G0 rfl (A0 rfl) B4 (by first | omega | (simp only [C8, A7, szR] at *; omega))) ?_
   refine B3 rfl ?_
   refine A4 ?_
   refine m3 ?_
   refine O2 i j ((i + j) / 2 + 1) (j) ?_ ?_ (K2 ⟨rfl, rfl, rfl, rfl, rfl, rfl, rfl, rfl, trivial⟩)
   ·exact ⟨by omega, by omega, by rw [hinv.2.2, Ad7 hlt hx k31]⟩
   omega
  intro h31
  have k31 := of_decide_eq_false h31; try simp only [A8] at k31
  refine A2 ?_
  refine A5 rfl ?_
  refine B3 rfl ?_
  refine A4 ?_
  refine m3 ?_
  refine O2 i j (i) ((i + j) / 2) ?_ ?_ (K2 ⟨rfl, rfl, rfl, rfl, rfl, rfl, rfl, rfl, trivial⟩)
  ·exact ⟨by omega, by omega, by rw [hinv.2.2, Ad8 hlt hx k31]⟩
  omega
 intro h17
 have k17 := of_decide_eq_false h17; try simp only [A8] at k17
 have hge : bs (fun x => f x v) l 0 l.length = i := by rw [hinv.2.2, AR9 (by omega)]
 obtain ⟨y, hy⟩ := y6 l i
 refine G1 ?_
 refine A3 (A2 ?_)
 refine A5 rfl ?_
 refine A5 rfl ?_
 refine A5 rfl ?_
 refine A1 rfl (J8 rfl (A0 rfl) (A0 rfl)) ?_
 refine A5 rfl ?_
 refine D3 rfl (fun hc => B8 rfl (A0 rfl)) ?_
 refine D3 rfl (fun hc => B8 rfl (A0 rfl)) ?_
 refine D3 rfl (fun hc => B8 rfl (A0 rfl)) ?_
 refine D3 rfl (fun hc => I2 rfl D1 E5 (A9 rfl hc) (A9 rfl hc) (hy (by first | omega | ((try simp only [C8, A7, szR] at *); omega) | (have hc2 := hc; simp only [Q0, beq_iff_eq, bne_iff_ne, A8, D9] at hc2; omega))) rfl) ?_
 refine D3 rfl (fun hc => K6 rfl (A9 rfl hc) P8 E5) ?_
 refine D3 rfl (fun hc => B8 rfl (A0 rfl)) ?_
 refine D3 rfl (fun hc => w9 rfl (A9 rfl hc) y v (hp y (F9 (hy (by first | omega | ((try simp only [C8, A7, szR] at *); omega) | (have hc2 := hc; simp only [Q0, beq_iff_eq, bne_iff_ne, A8, D9] at hc2; omega))))) (A9 rfl hc) (A9 rfl hc)) ?_
 refine D3 rfl (fun hc => O1 rfl (A9 rfl hc) B4) ?_
 refine A1 rfl (J5 rfl (A0 rfl) (F7 rfl)) ?_
 refine B3 rfl ?_
 refine B3 rfl ?_
 refine A4 ?_
 refine C2 ?_
 exact X8 rfl (by decide) (E7 (C1 rfl (by first | exact congrArg AV.int (by rw [hge]) | exact congrArg AV.bool (by rw [hge]; unfold bsAt; simp only [A8]; cases Nat.lt_or_ge i l.length with | inl hi => (rw [hy hi]; simp [hi]) | inr hi => (rw [List.getElem?_eq_none (by omega)]; simp only [decide_eq_false (show ¬ ((i : Int) < (l.length : Int)) by omega), Bool.false_and])))) (E7 (C1 rfl (by first | exact congrArg AV.int (by rw [hge]) | exact congrArg AV.bool (by rw [hge]; unfold bsAt; simp only [A8]; cases Nat.lt_or_ge i l.length with | inl hi => (rw [hy hi]; simp [hi]) | inr hi => (rw [List.getElem?_eq_none (by omega)]; simp only [decide_eq_false (show ¬ ((i : Int) < (l.length : Int)) by omega), Bool.false_and])))) M0))
theorem AK5 (l : List TCell) (v : Str) (pre : TCell → Str → Prop) (hp : ∀ x ∈ l, pre x v) (f : TCell → Str → Int) (hl2 : l.length ≤ 4611686018427387903) : FSpec Tryz.prog 167 [AV.list 2 (l.map TCell.cs), AV.str v, AV.fun2 Tryz.prog pre (fun a => AV.agg a.cs) (fun b => AV.str b) (fun a b => AV.int (f a b))] (AV.tup [AV.int (bs (fun x => f x v) l 0 l.length), AV.bool (bsAt (fun x => f x v) l (bs (fun x => f x v) l 0 l.length))]) := by
 refine E2 Tryz.func167 rfl Tryz.ntmps167 rfl ?_
 refine U5 (t := 0) rfl fun hl => ?_
 try simp only [A8] at hl
 refine A3 (A2 ?_)
 refine A1 rfl (B6 rfl B4) ?_
 refine A1 rfl (B6 rfl E9) ?_
 refine A4 (A3 (A2 ?_))
 refine A5 rfl ?_
 refine A1 rfl (F6 rfl F2 (A0 rfl)) ?_
 refine B3 rfl ?_
 refine A4 (A3 (A2 ?_))
 refine A5 rfl ?_
 refine A1 rfl (B6 rfl B4) ?_
 refine B3 rfl ?_
 refine A4 (A3 (C7 ?_))
 refine P3 [(0, _), (1, _), (2, _), (6, _), (7, _), (8, _)] _ (fun (i : Nat) (j : Nat) => i ≤ j ∧ j ≤ l.length ∧ bs (fun x => f x v) l 0 l.length = bs (fun x => f x v) l i j) (fun (i : Nat) (j : Nat) => []) (fun (i : Nat) (j : Nat) => [(9, AV.int i), (10, AV.int j)]) (fun (i : Nat) (j : Nat) => j - i) (0) ((l.map TCell.cs).length) ?_ (K2 ⟨rfl, rfl, rfl, rfl, rfl, rfl, rfl, rfl, trivial⟩) ?_
 ·exact ⟨Nat.zero_le _, by simp, by simp⟩
 intro i j hinv
 refine A3 (A3 (A2 ?_))
 refine A5 rfl ?_
 refine A5 rfl ?_
 refine A1 rfl (J8 rfl (A0 rfl) (A0 rfl)) ?_
 refine A4 ?_
 refine B9 (A0 rfl) ?_ ?_
 ·intro h17
  have k17 := of_decide_eq_true h17; try simp only [A8] at k17
  have hlt : i < j := by omega
  obtain ⟨x, hx⟩ := get_some (show (i + j) / 2 < l.length by omega)
  refine C3 (C7 (A3 (A2 ?_)))
  refine A5 rfl ?_
  refine A5 rfl ?_
  refine A1 rfl (G0 rfl (A0 rfl) (A0 rfl) (by omega)) ?_
  refine A1 rfl (o4 rfl (by kernel_rfl) Tryz.underlying141 (A0 rfl)) ?_
  refine A1 rfl (Ac8 rfl (A0 rfl) B4 (by decide) (by decide)) ?_
  refine A1 rfl (o4 rfl (by kernel_rfl) W6 (A0 rfl)) ?_
  refine B3 rfl ?_
  refine A4 (A3 (A2 ?_))
  rw [Ah1 (by omega)]
  refine A5 rfl ?_
  refine A5 rfl ?_
  refine A5 rfl ?_
  refine A1 rfl (I2 rfl F2 G5 (A0 rfl) (A0 rfl) hx (by first | omega | (simp only [C8, A7, szR] at *; omega))) ?_
  refine A1 rfl (K6 rfl (A0 rfl) U8 G5) ?_
  refine A5 rfl ?_
  refine A1 rfl (w9 rfl (A0 rfl) x v (hp x (F9 hx)) (A0 rfl) (A0 rfl)) ?_
  refine A1 rfl (J8 rfl (A0 rfl) B4) ?_
  refine A4 ?_
  refine B9 (A0 rfl) ?_ ?_
  ·intro h31
   have k31 := of_decide_eq_true h31; try simp only [A8] at k31
   refine A2 ?_
   refine A5 rfl ?_
   refine A1 rfl (G0 rfl (A0 rfl) B4 (by first | omega | (simp only [C8, A7, szR] at *; omega))) ?_
   refine B3 rfl ?_
   refine A4 ?_
   refine m3 ?_
   refine O2 i j ((i + j) / 2 + 1) (j) ?_ ?_ (K2 ⟨rfl, rfl, rfl, rfl, rfl, rfl, rfl, rfl, trivial⟩)
   ·exact ⟨by omega, by omega, by rw [hinv.2.2, Ad7 hlt hx k31]⟩
   omega
  intro h31
  have k31 := of_decide_eq_false h31; try simp only [A8] at k31
  refine A2 ?_
  refine A5 rfl ?_
  refine B3 rfl ?_
  refine A4 ?_
  refine m3 ?_
  refine O2 i j (i) ((i + j) / 2) ?_ ?_ (K2 ⟨rfl, rfl, rfl, rfl, rfl, rfl, rfl, rfl, trivial⟩)
  ·exact ⟨by omega, by omega, by rw [hinv.2.2, Ad8 hlt hx k31]⟩
  omega
 intro h17
 have k17 := of_decide_eq_false h17; try simp only [A8] at k17
 have hge : bs (fun x => f x v) l 0 l.length = i := by rw [hinv.2.2, AR9 (by omega)]
 obtain ⟨y, hy⟩ := y6 l i
 refine G1 ?_
 refine A3 (A2 ?_)
 refine A5 rfl ?_
 refine A5 rfl ?_
 refine A5 rfl ?_
 refine A1 rfl (J8 rfl (A0 rfl) (A0 rfl)) ?_
 refine A5 rfl ?_
 refine D3 rfl (fun hc => B8 rfl (A0 rfl)) ?_
 refine D3 rfl (fun hc => B8 rfl (A0 rfl)) ?_
 refine D3 rfl (fun hc => B8 rfl (A0 rfl)) ?_
 refine D3 rfl (fun hc => I2 rfl F2 G5 (A9 rfl hc) (A9 rfl hc) (hy (by first | omega | ((try simp only [C8, A7, szR] at *); omega) | (have hc2 := hc; simp only [Q0, beq_iff_eq, bne_iff_ne, A8, D9] at hc2; omega))) rfl) ?_
 refine D3 rfl (fun hc => K6 rfl (A9 rfl hc) U8 G5) ?_
 refine D3 rfl (fun hc => B8 rfl (A0 rfl)) ?_
 refine D3 rfl (fun hc => w9 rfl (A9 rfl hc) y v (hp y (F9 (hy (by first | omega | ((try simp only [C8, A7, szR] at *); omega) | (have hc2 := hc; simp only [Q0, beq_iff_eq, bne_iff_ne, A8, D9] at hc2; omega))))) (A9 rfl hc) (A9 rfl hc)) ?_
 refine D3 rfl (fun hc => O1 rfl (A9 rfl hc) B4) ?_
 refine A1 rfl (J5 rfl (A0 rfl) (F7 rfl)) ?_
 refine B3 rfl ?_
 refine B3 rfl ?_
 refine A4 ?_
 refine C2 ?_
 exact X8 rfl (by decide) (E7 (C1 rfl (by first | exact congrArg AV.int (by rw [hge]) | exact congrArg AV.bool (by rw [hge]; unfold bsAt; simp only [A8]; cases Nat.lt_or_ge i l.length with | inl hi => (rw [hy hi]; simp [hi]) | inr hi => (rw [List.getElem?_eq_none (by omega)]; simp only [decide_eq_false (show ¬ ((i : Int) < (l.length : Int)) by omega), Bool.false_and])))) (E7 (C1 rfl (by first | exact congrArg AV.int (by rw [hge]) | exact congrArg AV.bool (by rw [hge]; unfold bsAt; simp only [A8]; cases Nat.lt_or_ge i l.length with | inl hi => (rw [hy hi]; simp [hi]) | inr hi => (rw [List.getElem?_eq_none (by omega)]; simp only [decide_eq_false (show ¬ ((i : Int) < (l.length : Int)) by omega), Bool.false_and])))) M0))
theorem AK6 (l : List THeld) (v : Int) (pre : THeld → Int → Prop) (hp : ∀ x ∈ l, pre x v) (f : THeld → Int → Int) (hl2 : l.length ≤ 4611686018427387903) : FSpec Tryz.prog 137 [AV.list 5 (l.map THeld.cs), AV.int v, AV.fun2 Tryz.prog pre (fun a => AV.agg a.cs) (fun b => AV.int b) (fun a b => AV.int (f a b))] (AV.tup [AV.int (bs (fun x => f x v) l 0 l.length), AV.bool (bsAt (fun x => f x v) l (bs (fun x => f x v) l 0 l.length))]) := by
 refine E2 Tryz.func137 rfl Tryz.ntmps137 rfl ?_
 refine U5 (t := 0) rfl fun hl => ?_
 try simp only [A8] at hl
 refine A3 (A2 ?_)
 refine A1 rfl (B6 rfl B4) ?_
 refine A1 rfl (B6 rfl E9) ?_
 refine A4 (A3 (A2 ?_))
 refine A5 rfl ?_
 refine A1 rfl (F6 rfl E4 (A0 rfl)) ?_
 refine B3 rfl ?_
 refine A4 (A3 (A2 ?_))
 refine A5 rfl ?_
 refine A1 rfl (B6 rfl B4) ?_
 refine B3 rfl ?_
 refine A4 (A3 (C7 ?_))
 refine P3 [(0, _), (1, _), (2, _), (6, _), (7, _), (8, _)] _ (fun (i : Nat) (j : Nat) => i ≤ j ∧ j ≤ l.length ∧ bs (fun x => f x v) l 0 l.length = bs (fun x => f x v) l i j) (fun (i : Nat) (j : Nat) => []) (fun (i : Nat) (j : Nat) => [(9, AV.int i), (10, AV.int j)]) (fun (i : Nat) (j : Nat) => j - i) (0) ((l.map THeld.cs).length) ?_ (K2 ⟨rfl, rfl, rfl, rfl, rfl, rfl, rfl, rfl, trivial⟩) ?_
 ·exact ⟨Nat.zero_le _, by simp, by simp⟩
 intro i j hinv
 refine A3 (A3 (A2 ?_))
 refine A5 rfl ?_
 refine A5 rfl ?_
 refine A1 rfl (J8 rfl (A0 rfl) (A0 rfl)) ?_
 refine A4 ?_
 refine B9 (A0 rfl) ?_ ?_
 ·intro h17
  have k17 := of_decide_eq_true h17; try simp only [A8] at k17
  have hlt : i < j := by omega
  obtain ⟨x, hx⟩ := get_some (show (i + j) / 2 < l.length by omega)
  refine C3 (C7 (A3 (A2 ?_)))
  refine A5 rfl ?_
  refine A5 rfl ?_
  refine A1 rfl (G0 rfl (A0 rfl) (A0 rfl) (by omega)) ?_
  refine A1 rfl (o4 rfl (by kernel_rfl) Tryz.underlying141 (A0 rfl)) ?_
  refine A1 rfl (Ac8 rfl (A0 rfl) B4 (by decide) (by decide)) ?_
  refine A1 rfl (o4 rfl (by kernel_rfl) W6 (A0 rfl)) ?_
  refine B3 rfl ?_
  refine A4 (A3 (A2 ?_))
  rw [Ah1 (by omega)]
  refine A5 rfl ?_
  refine A5 rfl ?_
  refine A5 rfl ?_
  refine A1 rfl (I2 rfl E4 D5 (A0 rfl) (A0 rfl) hx (by first | omega | (simp only [C8, A7, szR] at *; omega))) ?_
  refine A1 rfl (K6 rfl (A0 rfl) K3 D5) ?_
  refine A5 rfl ?_
  refine A1 rfl (w9 rfl (A0 rfl) x v (hp x (F9 hx)) (A0 rfl) (A0 rfl)) ?_
  refine A1 rfl (J8 rfl (A0 rfl) B4) ?_
  refine A4 ?_
  refine B9 (A0 rfl) ?_ ?_
  ·intro h31
   have k31 := of_decide_eq_true h31; try simp only [A8] at k31
   refine A2 ?_
   refine A5 rfl ?_
   refine A1 rfl (G0 rfl (A0 rfl) B4 (by first | omega | (simp only [C8, A7, szR] at *; omega))) ?_
   refine B3 rfl ?_
   refine A4 ?_
   refine m3 ?_
   refine O2 i j ((i + j) / 2 + 1) (j) ?_ ?_ (K2 ⟨rfl, rfl, rfl, rfl, rfl, rfl, rfl, rfl, trivial⟩)
   ·exact ⟨by omega, by omega, by rw [hinv.2.2, Ad7 hlt hx k31]⟩
   omega
  intro h31
  have k31 := of_decide_eq_false h31; try simp only [A8] at k31
  refine A2 ?_
  refine A5 rfl ?_
  refine B3 rfl ?_
  refine A4 ?_
  refine m3 ?_
  refine O2 i j (i) ((i + j) / 2) ?_ ?_ (K2 ⟨rfl, rfl, rfl, rfl, rfl, rfl, rfl, rfl, trivial⟩)
  ·exact ⟨by omega, by omega, by rw [hinv.2.2, Ad8 hlt hx k31]⟩
  omega
 intro h17
 have k17 := of_decide_eq_false h17; try simp only [A8] at k17
 have hge : bs (fun x => f x v) l 0 l.length = i := by rw [hinv.2.2, AR9 (by omega)]
 obtain ⟨y, hy⟩ := y6 l i
 refine G1 ?_
 refine A3 (A2 ?_)
 refine A5 rfl ?_
 refine A5 rfl ?_
 refine A5 rfl ?_
 refine A1 rfl (J8 rfl (A0 rfl) (A0 rfl)) ?_
 refine A5 rfl ?_
 refine D3 rfl (fun hc => B8 rfl (A0 rfl)) ?_
 refine D3 rfl (fun hc => B8 rfl (A0 rfl)) ?_
 refine D3 rfl (fun hc => B8 rfl (A0 rfl)) ?_
 refine D3 rfl (fun hc => I2 rfl E4 D5 (A9 rfl hc) (A9 rfl hc) (hy (by first | omega | ((try simp only [C8, A7, szR] at *); omega) | (have hc2 := hc; simp only [Q0, beq_iff_eq, bne_iff_ne, A8, D9] at hc2; omega))) rfl) ?_
 refine D3 rfl (fun hc => K6 rfl (A9 rfl hc) K3 D5) ?_
 refine D3 rfl (fun hc => B8 rfl (A0 rfl)) ?_
 refine D3 rfl (fun hc => w9 rfl (A9 rfl hc) y v (hp y (F9 (hy (by first | omega | ((try simp only [C8, A7, szR] at *); omega) | (have hc2 := hc; simp only [Q0, beq_iff_eq, bne_iff_ne, A8, D9] at hc2; omega))))) (A9 rfl hc) (A9 rfl hc)) ?_
 refine D3 rfl (fun hc => O1 rfl (A9 rfl hc) B4) ?_
 refine A1 rfl (J5 rfl (A0 rfl) (F7 rfl)) ?_
 refine B3 rfl ?_
 refine B3 rfl ?_
 refine A4 ?_
 refine C2 ?_
 exact X8 rfl (by decide) (E7 (C1 rfl (by first | exact congrArg AV.int (by rw [hge]) | exact congrArg AV.bool (by rw [hge]; unfold bsAt; simp only [A8]; cases Nat.lt_or_ge i l.length with | inl hi => (rw [hy hi]; simp [hi]) | inr hi => (rw [List.getElem?_eq_none (by omega)]; simp only [decide_eq_false (show ¬ ((i : Int) < (l.length : Int)) by omega), Bool.false_and])))) (E7 (C1 rfl (by first | exact congrArg AV.int (by rw [hge]) | exact congrArg AV.bool (by rw [hge]; unfold bsAt; simp only [A8]; cases Nat.lt_or_ge i l.length with | inl hi => (rw [hy hi]; simp [hi]) | inr hi => (rw [List.getElem?_eq_none (by omega)]; simp only [decide_eq_false (show ¬ ((i : Int) < (l.length : Int)) by omega), Bool.false_and])))) M0))
theorem Ab1 (l : List Str) (v : Str) : FSpec Tryz.prog 208 [strs l, AV.str v] (AV.int (idxFrom (fun x => v == x) l 0)) := by
 refine E2 Tryz.func208 rfl Tryz.ntmps208 rfl ?_
 refine U5 (t := 0) rfl fun hl => ?_
 try simp only [A8] at hl
 refine A3 (A2 ?_)
 refine A1 rfl (B6 rfl B4) ?_
 refine A4 (A3 (A3 (A2 ?_)))
 refine A5 rfl ?_
 refine A1 rfl (F6 rfl C9 (A0 rfl)) ?_
 refine A1 rfl (B8 rfl B4) ?_
 refine A4 (C7 ?_)
 refine J0 [(0, _), (1, _), (7, _)] _ (fun (i : Nat) => i ≤ l.length ∧ idxFrom (fun x => v == x) l 0 = idxFrom (fun x => v == x) (l.drop i) i) (fun (i : Nat) => []) (fun (i : Nat) => [(8, AV.int i)]) (fun (i : Nat) => l.length - i) (0) ?_ (K2 ⟨rfl, rfl, rfl, rfl, trivial⟩) ?_
 ·exact ⟨Nat.zero_le _, rfl⟩
 intro i hinv
 refine A3 (A2 ?_)
 refine A1 rfl (J8 rfl (A0 rfl) (A0 rfl)) ?_
 refine A4 (A3 ?_)
 refine B9 (A0 rfl) ?_ ?_
 ·intro h9
  have k9 := of_decide_eq_true h9; try simp only [A8] at k9
  have hlt : i < l.length := by omega
  obtain ⟨x, hx⟩ := get_some hlt
  refine C3 (A3 (C7 (A3 (A2 ?_))))
  refine A5 rfl ?_
  refine B3 rfl ?_
  refine A4 (A3 (A2 ?_))
  refine A5 rfl ?_
  refine A5 rfl ?_
  refine A5 rfl ?_
  refine A1 rfl (I2 rfl C9 E3 (A0 rfl) (A0 rfl) hx (by first | omega | (simp only [C8, A7, szR] at *; omega))) ?_
  refine A1 rfl (L6 rfl (A0 rfl) G3 rfl) ?_
  refine A1 rfl (u6 rfl (A0 rfl) (A0 rfl)) ?_
  refine A4 ?_
  refine B9 (A0 rfl) ?_ ?_
  ·intro h16
   refine A3 (A2 ?_)
   refine A5 rfl ?_
   refine B3 rfl ?_
   refine A4 ?_
   refine C2 ?_
   exact I3 rfl (C1 rfl (by first | exact congrArg AV.int (by rw [hinv.2, drop_some hx, idxFrom, h16]; rfl) | exact congrArg AV.int (by rw [hinv.2, List.drop_eq_nil_of_le hge]; rfl)))
  intro h16
  refine C3 (A2 ?_)
  refine A1 rfl (G0 rfl (A0 rfl) B4 (by first | omega | (simp only [C8, A7, szR] at *; omega))) ?_
  refine A5 rfl ?_
  refine A4 ?_
  refine K4 i (i + 1) ?_ ?_ (K2 ⟨rfl, rfl, rfl, rfl, trivial⟩)
  ·exact ⟨by omega, by rw [hinv.2, drop_some hx, idxFrom, h16]; simp⟩
  omega
 intro h9
 have k9 := of_decide_eq_false h9; try simp only [A8] at k9
 have hge : l.length ≤ i := by omega
 refine G1 ?_
 refine A3 (A2 ?_)
 refine A1 rfl (B6 rfl B4) ?_
 refine A4 ?_
 refine C2 ?_
 exact I3 rfl (C1 rfl (by first | exact congrArg AV.int (by rw [hinv.2, drop_some hx, idxFrom, h16]; rfl) | exact congrArg AV.int (by rw [hinv.2, List.drop_eq_nil_of_le hge]; rfl)))
theorem AR0 (l : List Str) (v : Str) : FSpec Tryz.prog 196 [strs l, AV.str v] (AV.bool (l.any fun x => v == x)) := by
 refine E2 Tryz.func196 rfl Tryz.ntmps196 rfl ?_
 refine A3 (A2 ?_)
 refine A1 rfl (B6 rfl E9) ?_
 refine A4 (A3 (A2 ?_))
 refine A5 rfl ?_
 refine A5 rfl ?_
 refine A1 rfl (D7 rfl Tryz.call208 rfl (Ab1 _ _) (A6 (A0 rfl) (A6 (A0 rfl) C0))) ?_
 refine A1 rfl (f5 rfl (A0 rfl) B4) ?_
 refine B3 rfl ?_
 refine A4 ?_
 refine C2 ?_
 exact I3 rfl (C1 rfl (by exact congrArg AV.bool (n9 (fun x => v == x) l 0 (Int.le_refl 0))))
theorem AG8 (l : List TWrite) (hl : l.length ≤ 4194304) : GSpec Tryz.prog 127 [AV.list 3 (l.map TWrite.cs)] [] (fun _ : Value => True) (fun v => [.arr v 79 3 (l.map TWrite.cs)]) (fun v => AV.is v) := by
 refine H3 Tryz.func127 rfl Tryz.ntmps127 rfl ?_
 refine r3 0 rfl ?_ ?_
 ·intro hnil
  have hn : l = [] := by cases l with | nil => rfl | cons x l => simp at hnil
  subst hn
  refine A3 (A2 ?_)
  refine S0 79 3 rfl rfl rfl rfl L4 ?_
  intro v2
  refine A4 (A3 (A3 (A2 ?_)))
  refine A5 rfl ?_
  refine A1 rfl (AJ9 rfl D1 (A0 rfl)) ?_
  refine A4 ?_
  refine B9 (A0 rfl) ?_ ?_
  ·intro h4
   refine A3 (A2 ?_)
   refine S0 79 3 rfl rfl rfl rfl L4 ?_
   intro v2
   refine A4 ?_
   refine C2 ?_
   exact L5 [0] v2 (trivial) rfl (by rfl) (P0 rfl (C1 rfl (by first | rfl | (refine congrArg AV.bool ?_; simp_all; done))))
  intro h4
  cases h4
 skip
 refine A3 (A2 ?_)
 refine S0 79 3 rfl rfl rfl rfl L4 ?_
 intro v2
 refine A4 (A3 (A3 (A2 ?_)))
 refine A5 rfl ?_
 refine A1 rfl (AK0 rfl D1 (A0 rfl)) ?_
 refine A4 ?_
 refine B9 (A0 rfl) ?_ ?_
 ·intro h4
  cases h4
 intro h4
 refine C3 (A3 (A2 ?_))
 refine U6 rfl rfl rfl rfl D1 E5 ?_
 intro v5
 refine A5 rfl ?_
 refine L2 (by' := 40) 0 rfl rfl rfl rfl D1 Tryz.type79 rfl rfl rfl rfl rfl rfl (A0 rfl) (AB1 (A0 rfl) AE6) rfl (by first | omega | (simp only [C8, A7, szR] at *; omega)) ?_
 intro v7_1
 refine B3 rfl ?_
 refine A4 ?_
 refine C2 ?_
 exact L5 [0] v7_1 (trivial) rfl (by rfl) (P0 rfl (C1 rfl (by first | rfl | (refine congrArg AV.bool ?_; simp_all; done))))
theorem Ao6 (l : List TVer) (hl : l.length ≤ 4194304) : GSpec Tryz.prog 163 [AV.list 3 (l.map TVer.cs)] [] (fun _ : Value => True) (fun v => [.arr v 117 3 (l.map TVer.cs)]) (fun v => AV.is v) := by
 refine H3 Tryz.func163 rfl Tryz.ntmps163 rfl ?_
 refine r3 0 rfl ?_ ?_
 ·intro hnil
  have hn : l = [] := by cases l with | nil => rfl | cons x l => simp at hnil
  subst hn
  refine A3 (A2 ?_)
  refine S0 117 3 rfl rfl rfl rfl L4 ?_
  intro v2
  refine A4 (A3 (A3 (A2 ?_)))
  refine A5 rfl ?_
  refine A1 rfl (AJ9 rfl L3 (A0 rfl)) ?_
  refine A4 ?_
  refine B9 (A0 rfl) ?_ ?_
  ·intro h4
   refine A3 (A2 ?_)
   refine S0 117 3 rfl rfl rfl rfl L4 ?_
   intro v2
   refine A4 ?_
   refine C2 ?_
   exact L5 [0] v2 (trivial) rfl (by rfl) (P0 rfl (C1 rfl (by first | rfl | (refine congrArg AV.bool ?_; simp_all; done))))
  intro h4
  cases h4
 skip
 refine A3 (A2 ?_)
 refine S0 117 3 rfl rfl rfl rfl L4 ?_
 intro v2
 refine A4 (A3 (A3 (A2 ?_)))
 refine A5 rfl ?_
 refine A1 rfl (AK0 rfl L3 (A0 rfl)) ?_
 refine A4 ?_
 refine B9 (A0 rfl) ?_ ?_
 ·intro h4
  cases h4
 intro h4
 refine C3 (A3 (A2 ?_))
 refine U6 rfl rfl rfl rfl L3 N9 ?_
 intro v5
 refine A5 rfl ?_
 refine L2 (by' := 32) 0 rfl rfl rfl rfl L3 Tryz.type117 rfl rfl rfl rfl rfl rfl (A0 rfl) (AB1 (A0 rfl) AE6) rfl (by first | omega | (simp only [C8, A7, szR] at *; omega)) ?_
 intro v7_1
 refine B3 rfl ?_
 refine A4 ?_
 refine C2 ?_
 exact L5 [0] v7_1 (trivial) rfl (by rfl) (P0 rfl (C1 rfl (by first | rfl | (refine congrArg AV.bool ?_; simp_all; done))))
theorem Ah7 (l : List TCell) (hl : l.length ≤ 4194304) : GSpec Tryz.prog 162 [AV.list 2 (l.map TCell.cs)] [] (fun _ : Value => True) (fun v => [.arr v 115 2 (l.map TCell.cs)]) (fun v => AV.is v) := by
 refine H3 Tryz.func162 rfl Tryz.ntmps162 rfl ?_
 refine r3 0 rfl ?_ ?_
 ·intro hnil
  have hn : l = [] := by cases l with | nil => rfl | cons x l => simp at hnil
  subst hn
  refine A3 (A2 ?_)
  refine S0 115 2 rfl rfl rfl rfl L4 ?_
  intro v2
  refine A4 (A3 (A3 (A2 ?_)))
  refine A5 rfl ?_
  refine A1 rfl (AJ9 rfl F2 (A0 rfl)) ?_
  refine A4 ?_
  refine B9 (A0 rfl) ?_ ?_
  ·intro h4
   refine A3 (A2 ?_)
   refine S0 115 2 rfl rfl rfl rfl L4 ?_
   intro v2
   refine A4 ?_
   refine C2 ?_
   exact L5 [0] v2 (trivial) rfl (by rfl) (P0 rfl (C1 rfl (by first | rfl | (refine congrArg AV.bool ?_; simp_all; done))))
  intro h4
  cases h4
 skip
 refine A3 (A2 ?_)
 refine S0 115 2 rfl rfl rfl rfl L4 ?_
 intro v2
 refine A4 (A3 (A3 (A2 ?_)))
 refine A5 rfl ?_
 refine A1 rfl (AK0 rfl F2 (A0 rfl)) ?_
 refine A4 ?_
 refine B9 (A0 rfl) ?_ ?_
 ·intro h4
  cases h4
 intro h4
 refine C3 (A3 (A2 ?_))
 refine U6 rfl rfl rfl rfl F2 G5 ?_
 intro v5
 refine A5 rfl ?_
 refine L2 (by' := 40) 0 rfl rfl rfl rfl F2 Tryz.type115 rfl rfl rfl rfl rfl rfl (A0 rfl) (AB1 (A0 rfl) AE6) rfl (by first | omega | (simp only [C8, A7, szR] at *; omega)) ?_
 intro v7_1
 refine B3 rfl ?_
 refine A4 ?_
 refine C2 ?_
 exact L5 [0] v7_1 (trivial) rfl (by rfl) (P0 rfl (C1 rfl (by first | rfl | (refine congrArg AV.bool ?_; simp_all; done))))
theorem AK7 (l : List TTold) (hl : l.length ≤ 4194304) : GSpec Tryz.prog 125 [AV.list 3 (l.map TTold.cs)] [] (fun _ : Value => True) (fun v => [.arr v 132 3 (l.map TTold.cs)]) (fun v => AV.is v) := by
 refine H3 Tryz.func125 rfl Tryz.ntmps125 rfl ?_
 refine r3 0 rfl ?_ ?_
 ·intro hnil
  have hn : l = [] := by cases l with | nil => rfl | cons x l => simp at hnil
  subst hn
  refine A3 (A2 ?_)
  refine S0 132 3 rfl rfl rfl rfl L4 ?_
  intro v2
  refine A4 (A3 (A3 (A2 ?_)))
  refine A5 rfl ?_
  refine A1 rfl (AJ9 rfl I8 (A0 rfl)) ?_
  refine A4 ?_
  refine B9 (A0 rfl) ?_ ?_
  ·intro h4
   refine A3 (A2 ?_)
   refine S0 132 3 rfl rfl rfl rfl L4 ?_
   intro v2
   refine A4 ?_
   refine C2 ?_
   exact L5 [0] v2 (trivial) rfl (by rfl) (P0 rfl (C1 rfl (by first | rfl | (refine congrArg AV.bool ?_; simp_all; done))))
  intro h4
  cases h4
 skip
 refine A3 (A2 ?_)
 refine S0 132 3 rfl rfl rfl rfl L4 ?_
 intro v2
 refine A4 (A3 (A3 (A2 ?_)))
 refine A5 rfl ?_
 refine A1 rfl (AK0 rfl I8 (A0 rfl)) ?_
 refine A4 ?_
 refine B9 (A0 rfl) ?_ ?_
 ·intro h4
  cases h4
 intro h4
 refine C3 (A3 (A2 ?_))
 refine U6 rfl rfl rfl rfl I8 M1 ?_
 intro v5
 refine A5 rfl ?_
 refine L2 (by' := 24) 0 rfl rfl rfl rfl I8 Tryz.type132 rfl rfl rfl rfl rfl rfl (A0 rfl) (AB1 (A0 rfl) AE6) rfl (by first | omega | (simp only [C8, A7, szR] at *; omega)) ?_
 intro v7_1
 refine B3 rfl ?_
 refine A4 ?_
 refine C2 ?_
 exact L5 [0] v7_1 (trivial) rfl (by rfl) (P0 rfl (C1 rfl (by first | rfl | (refine congrArg AV.bool ?_; simp_all; done))))
theorem t6 (l : List Str) (hl : l.length ≤ 4194304) : GSpec Tryz.prog 86 [strs l] [] (fun _ : Value => True) (fun v => [.arr v 9 1 (l.map (fun x => [AV.str x]))]) (fun v => AV.is v) := by
 refine H3 Tryz.func86 rfl Tryz.ntmps86 rfl ?_
 refine r3 0 rfl ?_ ?_
 ·intro hnil
  have hn : l = [] := by cases l with | nil => rfl | cons x l => simp at hnil
  subst hn
  refine A3 (A2 ?_)
  refine S0 9 1 rfl rfl rfl rfl L4 ?_
  intro v2
  refine A4 (A3 (A3 (A2 ?_)))
  refine A5 rfl ?_
  refine A1 rfl (AJ9 rfl C9 (A0 rfl)) ?_
  refine A4 ?_
  refine B9 (A0 rfl) ?_ ?_
  ·intro h4
   refine A3 (A2 ?_)
   refine S0 9 1 rfl rfl rfl rfl L4 ?_
   intro v2
   refine A4 ?_
   refine C2 ?_
   exact L5 [0] v2 (trivial) rfl (by rfl) (P0 rfl (C1 rfl (by first | rfl | (refine congrArg AV.bool ?_; simp_all; done))))
  intro h4
  cases h4
 skip
 refine A3 (A2 ?_)
 refine S0 9 1 rfl rfl rfl rfl L4 ?_
 intro v2
 refine A4 (A3 (A3 (A2 ?_)))
 refine A5 rfl ?_
 refine A1 rfl (AK0 rfl C9 (A0 rfl)) ?_
 refine A4 ?_
 refine B9 (A0 rfl) ?_ ?_
 ·intro h4
  cases h4
 intro h4
 refine C3 (A3 (A2 ?_))
 refine U6 rfl rfl rfl rfl C9 E3 ?_
 intro v5
 refine A5 rfl ?_
 refine L2 (by' := 16) 0 rfl rfl rfl rfl C9 Tryz.type9 rfl rfl rfl rfl rfl rfl (A0 rfl) (AB1 (A0 rfl) AE6) rfl (by first | omega | (simp only [C8, A7, szR] at *; omega)) ?_
 intro v7_1
 refine B3 rfl ?_
 refine A4 ?_
 refine C2 ?_
 exact L5 [0] v7_1 (trivial) rfl (by rfl) (P0 rfl (C1 rfl (by first | rfl | (refine congrArg AV.bool ?_; simp_all; done))))
theorem Ae8 (v vv : Value) (l : List TWrite) (x : TWrite) (i : Nat) (hi : i ≤ l.length) (hl : l.length ≤ 4194304) : GSpec Tryz.prog 113 [AV.is v, AV.int i, AV.is vv] [.arr v 79 3 (l.map TWrite.cs), .arr vv 79 3 [TWrite.cs x]] (fun _ : Value => True) (fun v => [.arr v 79 3 ((l.take i ++ x :: l.drop i).map TWrite.cs)]) (fun v => AV.is v) := by
 have hn : (l.map TWrite.cs).length = l.length := A8 _
 have h1 : ([TWrite.cs x] : List (List AV)).length = 1 := rfl
 have e28 : ((l.map TWrite.cs).length : Int) + (([TWrite.cs x] : List (List AV)).length : Int) = ((l.length + 1 : Nat) : Int) := by rw [hn, h1]; rfl
 have e49 : (i : Int) + (([TWrite.cs x] : List (List AV)).length : Int) = ((i + 1 : Nat) : Int) := by rw [h1]; rfl
 have e39 : ((l.length + 1 : Nat) : Int) - (i : Int) = ((l.length + 1 - i : Nat) : Int) := by omega
 refine H3 Tryz.func113 rfl Tryz.ntmps113 rfl ?_
 refine Aa6 0 rfl ?_ ?_
 ·intro hv hes; subst hv
  have hl0 : l = [] := by cases l with | nil => rfl | cons y l => (simp at hes)
  subst hl0
  have hi0 : i = 0 := by simpa using hi
  subst hi0
  refine Aa6 1 rfl (fun _ h => by cases h) ?_
  intro gv cv hvv _ _
  subst hvv
  refine A3 (A2 ?_)
  refine A1 rfl (B6 rfl L4) ?_
  refine A4 (A3 (A2 ?_))
  refine A5 rfl ?_
  refine A5 rfl ?_
  refine A1 rfl (AW3 0 rfl D1 E5 (A0 rfl) rfl (A0 rfl) (by first | omega | (simp only [C8, A7, szR] at *; omega)) (by first | omega | (simp only [C8, A7, szR] at *; omega))) ?_
  refine A4 (A3 (A2 ?_))
  refine A5 rfl ?_
  refine A1 rfl (As4 rfl D1 (A0 rfl)) ?_
  refine B3 rfl ?_
  refine A4 (A3 (A3 (A2 ?_)))
  refine A5 rfl ?_
  refine A1 rfl (O1 rfl (A0 rfl) B4) ?_
  refine A4 ?_
  refine B9 (A0 rfl) ?_ ?_
  ·intro h16
   have k16 := M7 h16; try simp only [A8] at k16
   rw [h1] at k16; omega
  intro h16
  have k16 := M6 h16; try simp only [A8] at k16
  refine C3 (A3 (A2 ?_))
  refine A5 rfl ?_
  refine A1 rfl (W4 0 rfl D1 (A0 rfl) rfl) ?_
  refine B3 rfl ?_
  refine A4 (A3 (A3 (A2 ?_)))
  refine A5 rfl ?_
  refine A5 rfl ?_
  refine A1 rfl (O1 rfl (A0 rfl) (A0 rfl)) ?_
  refine A4 ?_
  refine B9 (A0 rfl) ?_ ?_
  ·intro h22
   have k22 := M7 h22; try simp only [A8] at k22
   refine A3 (A2 ?_)
   refine A5 rfl ?_
   refine A5 rfl ?_
   refine Ad6 (by' := 40) 0 rfl rfl rfl rfl D1 Tryz.type79 rfl rfl rfl rfl rfl rfl (A0 rfl) (AE8 1 rfl (A0 rfl)) (by simp) rfl (by simp only [A8, I5, N4]; omega) ?_
   intro v25
   refine B3 rfl ?_
   refine A4 ?_
   refine C2 ?_
   exact L5 [0] v25 (trivial) rfl (by exact congrArg (fun z => [Own.arr _ 79 3 z]) (by first | exact AN4 hi (by simp) | exact AG4 (by omega) | (have hil : i = l.length := (by omega); subst hil; simp; done) | (simp; done))) (P0 rfl (C1 rfl (by first | rfl | (rw [hn]))))
  intro h22
  have k22 := M6 h22; try simp only [A8] at k22
  exact absurd rfl k22
 intro g cap hv hlc hcm; subst hv
 refine Aa6 1 rfl (fun _ h => by cases h) ?_
 intro gv cv hvv _ _
 subst hvv
 refine A3 (A2 ?_)
 refine A1 rfl (B6 rfl L4) ?_
 refine A4 (A3 (A2 ?_))
 refine A5 rfl ?_
 refine A5 rfl ?_
 refine A1 rfl (AG3 rfl D1 E5 (A0 rfl) (A0 rfl) (by first | omega | (simp only [C8, A7, szR] at *; omega)) (by first | omega | (simp only [C8, A7, szR] at *; omega))) ?_
 refine A4 (A3 (A2 ?_))
 refine A5 rfl ?_
 refine A1 rfl (As4 rfl D1 (A0 rfl)) ?_
 refine B3 rfl ?_
 refine A4 (A3 (A3 (A2 ?_)))
 refine A5 rfl ?_
 refine A1 rfl (O1 rfl (A0 rfl) B4) ?_
 refine A4 ?_
 refine B9 (A0 rfl) ?_ ?_
 ·intro h16
  have k16 := M7 h16; try simp only [A8] at k16
  rw [h1] at k16; omega
 intro h16
 have k16 := M6 h16; try simp only [A8] at k16
 refine C3 (A3 (A2 ?_))
 refine A5 rfl ?_
 refine A1 rfl (As4 rfl D1 (A0 rfl)) ?_
 refine B3 rfl ?_
 refine A4 (A3 (A3 (A2 ?_)))
 refine A5 rfl ?_
 refine A5 rfl ?_
 refine A1 rfl (O1 rfl (A0 rfl) (A0 rfl)) ?_
 refine A4 ?_
 refine B9 (A0 rfl) ?_ ?_
 ·intro h22
  have k22 := M7 h22; try simp only [A8] at k22
  refine A3 (A2 ?_)
  refine A5 rfl ?_
  refine A5 rfl ?_
  refine Ad6 (by' := 40) 0 rfl rfl rfl rfl D1 Tryz.type79 rfl rfl rfl rfl rfl rfl (A0 rfl) (AE8 1 rfl (A0 rfl)) (by simp) rfl (by simp only [A8, I5, N4]; omega) ?_
  intro v25
  refine B3 rfl ?_
  refine A4 ?_
  refine C2 ?_
  exact L5 [0] v25 (trivial) rfl (by exact congrArg (fun z => [Own.arr _ 79 3 z]) (by first | exact AN4 hi (by simp) | exact AG4 (by omega) | (have hil : i = l.length := (by omega); subst hil; simp; done) | (simp; done))) (P0 rfl (C1 rfl (by first | rfl | (rw [hn]))))
 intro h22
 have k22 := M6 h22; try simp only [A8] at k22
 refine C3 (A3 (A3 (A2 ?_)))
 refine A5 rfl ?_
 refine A5 rfl ?_
 refine A1 rfl (G0 rfl (A0 rfl) (A0 rfl) (by first | omega | (simp only [C8, A7, szR] at *; omega))) ?_
 rw [e28]
 refine A5 rfl ?_
 refine A1 rfl (w_vcap rfl D1 (A0 rfl)) ?_
 refine A1 rfl (R8 rfl (A0 rfl) (A0 rfl)) ?_
 refine A4 ?_
 refine B9 (A0 rfl) ?_ ?_
 ·intro h31
  have k31 := of_decide_eq_true h31; try simp only [A8] at k31
  refine A3 (A2 ?_)
  refine A5 rfl ?_
  refine A5 rfl ?_
  refine A1 rfl (w_vhi rfl D1 E5 (A0 rfl) (A0 rfl) (by omega) (by rw [hn] at hlc; omega)) ?_
  refine A5 rfl ?_
  refine A5 rfl ?_
  refine A1 rfl (G0 rfl (A0 rfl) (A0 rfl) (by first | omega | (simp only [C8, A7, szR] at *; omega))) ?_
  rw [e28]
  refine A5 rfl ?_
  refine A1 rfl (R7 rfl (A0 rfl) (A0 rfl) (by first | omega | (simp only [C8, A7, szR] at *; omega))) ?_
  rw [e39, Int.toNat_natCast]
  refine BF3 (by' := 40) (j := i) (m := l.length + 1 - i) 0 rfl rfl rfl rfl D1 W6 Tryz.type79 rfl rfl rfl rfl rfl rfl (A0 rfl) (A0 rfl) rfl (by rw [hn]; exact hi) (by omega) (by omega) (by omega) (by omega) ?_
  intro g2 cap2 hcap2
  refine B3 rfl ?_
  refine A4 (A3 (A2 ?_))
  refine A5 rfl ?_
  refine A5 rfl ?_
  refine A1 rfl (AG3 rfl D1 E5 (A0 rfl) (A0 rfl) (by first | omega | (simp only [C8, A7, szR] at *; omega)) (by first | omega | (simp only [C8, A7, szR] at *; omega))) ?_
  refine A5 rfl ?_
  rw [Int.toNat_natCast]
  refine Ah0 (k := i) 0 rfl rfl rfl rfl D1 Tryz.type79 rfl (A0 rfl) (AE8 2 rfl (A0 rfl)) rfl (by rw [h1]; omega) (by rw [h1]; omega) hcap2 (by simp) ?_
  refine A4 (A3 ?_)
  refine S9 8 (by kernel_rfl) (by kernel_rfl) rfl ?_
  refine B2 rfl rfl (B8 rfl (A0 rfl)) ?_
  refine B2 rfl rfl (B8 rfl (A0 rfl)) ?_
  refine B2 rfl rfl (B8 rfl (A0 rfl)) ?_
  refine B2 rfl rfl (G0 rfl (A0 rfl) (A0 rfl) (by first | omega | (simp only [C8, A7, szR] at *; omega))) ?_
  rw [e49]
  refine B2 rfl rfl (AG3 rfl D1 E5 (A0 rfl) (A0 rfl) (by first | omega | (simp only [C8, A7, szR] at *; omega)) (by first | omega | (simp only [C8, A7, szR] at *; omega))) ?_
  refine B2 rfl rfl (B8 rfl (A0 rfl)) ?_
  refine B2 rfl rfl (B8 rfl (A0 rfl)) ?_
  refine B2 rfl rfl (AG3 rfl D1 E5 (A0 rfl) (A0 rfl) (by first | omega | (simp only [C8, A7, szR] at *; omega)) (by first | omega | (simp only [C8, A7, szR] at *; omega))) ?_
  refine P7 ?_
  simp only [Int.toNat_natCast]
  refine Ah0 (k := i + 1) 0 rfl rfl rfl rfl D1 Tryz.type79 rfl (A0 rfl) (BC5 1 rfl (A0 rfl)) rfl (by rw [List.length_drop, hn]; omega) (by rw [List.length_drop, hn]; omega) hcap2 (by intro h; have := congrArg List.length h; rw [List.length_drop, hn] at this; simp at this; omega) ?_
  refine A4 (A3 (A2 ?_))
  refine A5 rfl ?_
  refine B3 rfl ?_
  refine A4 ?_
  refine C2 ?_
  exact L5 [0] (slv g2 (i + (l.length + 1 - i)) cap2) (trivial) rfl (by exact congrArg (fun z => [Own.arr _ 79 3 z]) (by first | exact AN4 hi (by simp) | exact AG4 (by omega) | (have hil : i = l.length := (by omega); subst hil; simp; done) | (simp; done))) (P0 rfl (C1 rfl (by first | rfl | (rw [hn]))))
 intro h31
 have k31 := of_decide_eq_false h31; try simp only [A8] at k31
 refine C3 (A3 (A2 ?_))
 refine A5 rfl ?_
 refine A5 rfl ?_
 refine A5 rfl ?_
 refine A1 rfl (G0 rfl (A0 rfl) (A0 rfl) (by first | omega | (simp only [C8, A7, szR] at *; omega))) ?_
 rw [e28]
 refine A1 rfl (w_vhi rfl D1 E5 (A0 rfl) (A0 rfl) (by first | omega | (simp only [C8, A7, szR] at *; omega)) (by first | omega | (simp only [C8, A7, szR] at *; omega))) ?_
 rw [Int.toNat_natCast]
 refine B3 rfl ?_
 refine A4 (A3 (A3 (A2 ?_)))
 refine A5 rfl ?_
 refine A5 rfl ?_
 refine A5 rfl ?_
 refine A5 rfl ?_
 refine A1 rfl (G0 rfl (A0 rfl) (A0 rfl) (by first | omega | (simp only [C8, A7, szR] at *; omega))) ?_
 rw [e49]
 refine A1 rfl (AG3 rfl D1 E5 (A0 rfl) (A0 rfl) (by first | omega | (simp only [C8, A7, szR] at *; omega)) (by first | omega | (simp only [C8, A7, szR] at *; omega))) ?_
 rw [Int.toNat_natCast]
 refine A1 rfl (Ay8 (tb := 4) 1 0 rfl Tryz.func153 (by kernel_rfl) (by kernel_rfl) (by kernel_rfl) (by kernel_rfl) D1 E5 (A0 rfl) (A0 rfl) rfl rfl rfl (by omega) rfl) ?_
 refine A1 rfl (M2 rfl (A0 rfl)) ?_
 refine A4 ?_
 refine B9 (A0 rfl) ?_ ?_
 ·intro h68
  refine A3 ?_
  refine S9 8 (by kernel_rfl) (by kernel_rfl) rfl ?_
  refine B2 rfl rfl (B8 rfl (A0 rfl)) ?_
  refine B2 rfl rfl (B8 rfl (A0 rfl)) ?_
  refine B2 rfl rfl (B8 rfl (A0 rfl)) ?_
  refine B2 rfl rfl (G0 rfl (A0 rfl) (A0 rfl) (by first | omega | (simp only [C8, A7, szR] at *; omega))) ?_
  rw [e49]
  refine B2 rfl rfl (AG3 rfl D1 E5 (A0 rfl) (A0 rfl) (by first | omega | (simp only [C8, A7, szR] at *; omega)) (by first | omega | (simp only [C8, A7, szR] at *; omega))) ?_
  refine B2 rfl rfl (B8 rfl (A0 rfl)) ?_
  refine B2 rfl rfl (B8 rfl (A0 rfl)) ?_
  refine B2 rfl rfl (AG3 rfl D1 E5 (A0 rfl) (A0 rfl) (by first | omega | (simp only [C8, A7, szR] at *; omega)) (by first | omega | (simp only [C8, A7, szR] at *; omega))) ?_
  refine P7 ?_
  simp only [Int.toNat_natCast]
  refine sq_shift (k := i) (len := (l.map TWrite.cs).length) 0 rfl rfl rfl rfl D1 Tryz.type79 rfl (by rw [hn]; exact A0 rfl) (by rw [hn]; exact A0 rfl) rfl (by omega) (by omega) ?_
  intro j77
  refine A4 (A3 (A2 ?_))
  refine A5 rfl ?_
  refine A5 rfl ?_
  refine A1 rfl (AG3 rfl D1 E5 (A0 rfl) (A0 rfl) (by first | omega | (simp only [C8, A7, szR] at *; omega)) (by first | omega | (simp only [C8, A7, szR] at *; omega))) ?_
  refine A5 rfl ?_
  rw [Int.toNat_natCast]
  refine Ah0 (k := i) 0 rfl rfl rfl rfl D1 Tryz.type79 rfl (A0 rfl) (AE8 1 rfl (A0 rfl)) rfl (by rw [h1, hn]; omega) (by rw [h1]; omega) (by omega) (by simp) ?_
  refine A4 (A3 (A2 ?_))
  refine A5 rfl ?_
  refine B3 rfl ?_
  refine A4 ?_
  refine C2 ?_
  exact L5 [0] (slv g ((l.map TWrite.cs).length + 1) cap) (trivial) rfl (by exact congrArg (fun z => [Own.arr _ 79 3 z]) (by first | exact AN4 hi (by simp) | exact AG4 (by omega) | (have hil : i = l.length := (by omega); subst hil; simp; done) | (simp; done))) (P0 rfl (C1 rfl (by first | rfl | (rw [hn]))))
 intro h68
 cases h68
end Go.Proofs.YtoaoicnnimjbeaaGreat

namespace Go.Proofs.YtoaoicnnimjbeaaGreat
open Go Go.AV Go.M
attribute [local irreducible] OpW OpA OpS AWP FSpec ESpec RetOk RvDen Le Ev GuardIs
theorem o1 (t : Int) : FSpec Tryz.prog 122 [AV.int t] (AV.bool (isTime t)) := by
 refine E2 Tryz.func122 rfl Tryz.ntmps122 rfl ?_
 refine A3 (A2 ?_)
 refine A1 rfl (B6 rfl E9) ?_
 refine A4 (A3 (A2 ?_))
 refine A5 rfl ?_
 refine A1 rfl (D7 rfl Tryz.call61 rfl (m0 _ _ _) (A6 (A0 rfl) (A6 B4 (A6 B4 C0)))) ?_
 refine B3 rfl ?_
 refine A4 ?_
 refine C2 ?_
 exact I3 rfl (C1 rfl (by first | rfl | (refine congrArg AV.bool ?_; simp_all; done)))
theorem AP7 (s : Str) (g : Bool) (hs : s.length ≤ 4611686018427387904) : FSpec Tryz.prog 116 [AV.str s, AV.bool g] (AV.bool (isStored s g)) := by
 refine E2 Tryz.func116 rfl Tryz.ntmps116 rfl ?_
 refine A3 (A2 ?_)
 refine A1 rfl (B6 rfl E9) ?_
 refine A4 (A3 (A2 ?_))
 refine A5 rfl ?_
 refine A1 rfl (D7 rfl Tryz.call156 rfl (Au1 _ (by omega)) (A6 (A0 rfl) C0)) ?_
 refine A5 rfl ?_
 refine D3 rfl (fun hc => B8 rfl (A0 rfl)) ?_
 refine D3 rfl (fun hc => B8 rfl (A9 rfl hc)) ?_
 refine J7 rfl rfl (E6 rfl rfl rfl) (fun hc => B8 rfl (A0 rfl)) ?_
 refine J7 rfl rfl (E6 rfl rfl rfl) (fun hc => AJ3 rfl (A9 rfl hc) (N0 (l := []) rfl)) ?_
 refine D3 rfl (fun hc => J5 rfl (A9 rfl hc) (T1 rfl hc)) ?_
 refine D3 rfl (fun hc => M2 rfl (A9 rfl hc)) ?_
 refine A1 rfl (J5 rfl (A0 rfl) (F7 rfl)) ?_
 refine B3 rfl ?_
 refine A4 ?_
 refine C2 ?_
 exact I3 rfl (C1 rfl (by first | rfl | (refine congrArg AV.bool ?_; simp_all; done)))
theorem BG9 (s : Str) (hs : s.length ≤ 4611686018427387904) : FSpec Tryz.prog 121 [AV.str s] (AV.bool (l3Val s)) := by
 refine E2 Tryz.func121 rfl Tryz.ntmps121 rfl ?_
 refine A3 (A2 ?_)
 refine A1 rfl (B6 rfl E9) ?_
 refine A4 (A3 (A2 ?_))
 refine A5 rfl ?_
 refine A1 rfl (AE3 rfl Q3 (A0 rfl)) ?_
 refine A1 rfl (X2 rfl (A0 rfl) B4) ?_
 refine A5 rfl ?_
 refine D3 rfl (fun hc => B8 rfl (A0 rfl)) ?_
 refine D3 rfl (fun hc => D7 rfl Tryz.call64 rfl (AT3 _ _ (by omega) (by decide)) (A6 (A9 rfl hc) (A6 (N0 (l := [46, 45, 44, 95]) rfl) C0))) ?_
 refine A1 rfl (J5 rfl (A0 rfl) (F7 rfl)) ?_
 refine B3 rfl ?_
 refine A4 ?_
 refine C2 ?_
 exact I3 rfl (C1 rfl (by first | rfl | (refine congrArg AV.bool ?_; simp_all; done)))
theorem AT6 (k s : Str) (g : Bool) (hk : k.length ≤ 4611686018427387904) (hs : s.length ≤ 4611686018427387904) : FSpec Tryz.prog 83 [AV.str k, AV.str s, AV.bool g] (AV.bool (l3Write k s g)) := by
 refine E2 Tryz.func83 rfl Tryz.ntmps83 rfl ?_
 refine A3 (A2 ?_)
 refine A1 rfl (B6 rfl E9) ?_
 refine A4 (A3 (A2 ?_))
 refine A5 rfl ?_
 refine A1 rfl (D7 rfl Tryz.call30 rfl (w3 _ (by omega)) (A6 (A0 rfl) C0)) ?_
 refine A5 rfl ?_
 refine D3 rfl (fun hc => B8 rfl (A0 rfl)) ?_
 refine D3 rfl (fun hc => D7 rfl Tryz.call121 rfl (BG9 _ (by omega)) (A6 (A9 rfl hc) C0)) ?_
 refine A1 rfl (J5 rfl (A0 rfl) (F7 rfl)) ?_
 refine A5 rfl ?_
 refine D3 rfl (fun hc => B8 rfl (A0 rfl)) ?_
 refine D3 rfl (fun hc => M2 rfl (A9 rfl hc)) ?_
 refine D3 rfl (fun hc => B8 rfl (A9 rfl hc)) ?_
 refine J7 rfl rfl (R6 rfl rfl rfl) (fun hc => B8 rfl (A0 rfl)) ?_
 refine J7 rfl rfl (R6 rfl rfl rfl) (fun hc => u6 rfl (A9 rfl hc) (N0 (l := []) rfl)) ?_
 refine D3 rfl (fun hc => Q8 rfl (A9 rfl hc) (T1 rfl hc)) ?_
 refine A1 rfl (J5 rfl (A0 rfl) (F7 rfl)) ?_
 refine B3 rfl ?_
 refine A4 ?_
 refine C2 ?_
 exact I3 rfl (C1 rfl (by first | rfl | (refine congrArg AV.bool ?_; simp_all; done)))
theorem AP8 (t : Int) : FSpec Tryz.prog 169 [AV.int t] (AV.bool false) := by
 refine E2 Tryz.func169 rfl Tryz.ntmps169 rfl ?_
 refine A3 (A2 ?_)
 refine A1 rfl (B6 rfl E9) ?_
 refine A4 (A3 (A2 ?_))
 refine A5 rfl ?_
 refine A5 rfl ?_
 refine A1 rfl (Z7 rfl (A0 rfl) (A0 rfl)) ?_
 refine B3 rfl ?_
 refine A4 ?_
 refine C2 ?_
 exact I3 rfl (C1 rfl (by exact congrArg AV.bool (by simp)))
theorem AP9 (t : Str) : FSpec Tryz.prog 191 [AV.str t] (AV.bool false) := by
 refine E2 Tryz.func191 rfl Tryz.ntmps191 rfl ?_
 refine A3 (A2 ?_)
 refine A1 rfl (B6 rfl E9) ?_
 refine A4 (A3 (A2 ?_))
 refine A5 rfl ?_
 refine A5 rfl ?_
 refine A1 rfl (AJ3 rfl (A0 rfl) (A0 rfl)) ?_
 refine B3 rfl ?_
 refine A4 ?_
 refine C2 ?_
 exact I3 rfl (C1 rfl (by exact congrArg AV.bool (by simp)))
theorem Az4 (x y : Int) : FSpec Tryz.prog 139 [AV.int x, AV.int y] (AV.int (cmpInt x y)) := by
 refine E2 Tryz.func139 rfl Tryz.ntmps139 rfl ?_
 refine A3 (A2 ?_)
 refine A1 rfl (B6 rfl B4) ?_
 refine A4 (A3 (A2 ?_))
 refine A5 rfl ?_
 refine A1 rfl (D7 rfl Tryz.call169 rfl (AP8 _) (A6 (A0 rfl) C0)) ?_
 refine B3 rfl ?_
 refine A4 (A3 (A2 ?_))
 refine A5 rfl ?_
 refine A1 rfl (D7 rfl Tryz.call169 rfl (AP8 _) (A6 (A0 rfl) C0)) ?_
 refine B3 rfl ?_
 refine A4 (A3 (A3 (A2 ?_)))
 refine A5 rfl ?_
 refine A4 ?_
 refine B9 (A0 rfl) ?_ ?_
 ·intro h11
  cases h11
 intro h11
 refine C3 (A3 (A3 (A2 ?_)))
 refine A5 rfl ?_
 refine A4 ?_
 refine B9 (A0 rfl) ?_ ?_
 ·intro h13
  cases h13
 intro h13
 refine C3 (A3 (A3 (A2 ?_)))
 refine A5 rfl ?_
 refine A5 rfl ?_
 refine A1 rfl (J8 rfl (A0 rfl) (A0 rfl)) ?_
 refine A4 ?_
 refine B9 (A0 rfl) ?_ ?_
 ·intro h16
  have k16 := of_decide_eq_true h16; try simp only [A8] at k16
  refine A3 (A2 ?_)
  refine A1 rfl (B6 rfl B4) ?_
  refine A4 ?_
  refine C2 ?_
  exact I3 rfl (C1 rfl (by exact congrArg AV.int (by unfold cmpInt; (repeat' split) <;> omega)))
 intro h16
 have k16 := of_decide_eq_false h16; try simp only [A8] at k16
 refine C3 (A3 (A3 (A2 ?_)))
 refine A5 rfl ?_
 refine A5 rfl ?_
 refine A1 rfl (R8 rfl (A0 rfl) (A0 rfl)) ?_
 refine A4 ?_
 refine B9 (A0 rfl) ?_ ?_
 ·intro h19
  have k19 := of_decide_eq_true h19; try simp only [A8] at k19
  refine A3 (A2 ?_)
  refine A1 rfl (B6 rfl B4) ?_
  refine A4 ?_
  refine C2 ?_
  exact I3 rfl (C1 rfl (by exact congrArg AV.int (by unfold cmpInt; (repeat' split) <;> omega)))
 intro h19
 have k19 := of_decide_eq_false h19; try simp only [A8] at k19
 refine C3 (A3 (A2 ?_))
 refine A1 rfl (B6 rfl B4) ?_
 refine A4 ?_
 refine C2 ?_
 exact I3 rfl (C1 rfl (by exact congrArg AV.int (by unfold cmpInt; (repeat' split) <;> omega)))
theorem AY4 (x y : Str) : FSpec Tryz.prog 152 [AV.str x, AV.str y] (AV.int (cmpStr x y)) := by
 refine E2 Tryz.func152 rfl Tryz.ntmps152 rfl ?_
 refine A3 (A2 ?_)
 refine A1 rfl (B6 rfl B4) ?_
 refine A4 (A3 (A2 ?_))
 refine A5 rfl ?_
 refine A1 rfl (D7 rfl Tryz.call191 rfl (AP9 _) (A6 (A0 rfl) C0)) ?_
 refine B3 rfl ?_
 refine A4 (A3 (A2 ?_))
 refine A5 rfl ?_
 refine A1 rfl (D7 rfl Tryz.call191 rfl (AP9 _) (A6 (A0 rfl) C0)) ?_
 refine B3 rfl ?_
 refine A4 (A3 (A3 (A2 ?_)))
 refine A5 rfl ?_
 refine A4 ?_
 refine B9 (A0 rfl) ?_ ?_
 ·intro h11
  cases h11
 intro h11
 refine C3 (A3 (A3 (A2 ?_)))
 refine A5 rfl ?_
 refine A4 ?_
 refine B9 (A0 rfl) ?_ ?_
 ·intro h13
  cases h13
 intro h13
 refine C3 (A3 (A3 (A2 ?_)))
 refine A5 rfl ?_
 refine A5 rfl ?_
 refine A1 rfl (w_slss rfl (A0 rfl) (A0 rfl)) ?_
 refine A4 ?_
 refine B9 (A0 rfl) ?_ ?_
 ·intro h16
  refine A3 (A2 ?_)
  refine A1 rfl (B6 rfl B4) ?_
  refine A4 ?_
  refine C2 ?_
  exact I3 rfl (C1 rfl (by exact congrArg AV.int (by have := T4 y x; unfold cmpStr; simp_all)))
 intro h16
 refine C3 (A3 (A3 (A2 ?_)))
 refine A5 rfl ?_
 refine A5 rfl ?_
 refine A1 rfl (AR2 rfl (A0 rfl) (A0 rfl)) ?_
 refine A4 ?_
 refine B9 (A0 rfl) ?_ ?_
 ·intro h19
  refine A3 (A2 ?_)
  refine A1 rfl (B6 rfl B4) ?_
  refine A4 ?_
  refine C2 ?_
  exact I3 rfl (C1 rfl (by exact congrArg AV.int (by have := T4 y x; unfold cmpStr; simp_all)))
 intro h19
 refine C3 (A3 (A2 ?_))
 refine A1 rfl (B6 rfl B4) ?_
 refine A4 ?_
 refine C2 ?_
 exact I3 rfl (C1 rfl (by exact congrArg AV.int (by have := T4 y x; unfold cmpStr; simp_all)))
end Go.Proofs.YtoaoicnnimjbeaaGreat

namespace Go.Proofs.YtoaoicnnimjbeaaGreat
open Go Go.AV Go.M
attribute [local irreducible] OpW OpA OpS AWP FSpec ESpec RetOk RvDen Le Ev GuardIs
end Go.Proofs.YtoaoicnnimjbeaaGreat

namespace Go.Proofs.YtoaoicnnimjbeaaGreat
open Go Go.AV Go.M
attribute [local irreducible] OpW OpA OpS AWP FSpec ESpec RetOk RvDen Le Ev GuardIs
theorem BH0 {l : List TWrite} (h : sizeL TWrite.size l ≤ 4194304) : ∀ k ∈ wKeys l, k.length ≤ 4611686018427387904 := fun k hk => by
  obtain ⟨w, hw, rfl⟩ := List.mem_map.1 hk
  have := o7 (f := TWrite.size) hw
  have h2 : w.size = w.Key.length + w.Val.length := rfl
  omega
theorem q6 (l : List Str) (hs : ∀ k ∈ l, k.length ≤ 4611686018427387904) : FSpec Tryz.prog 32 [strs l] (AV.bool (areRising l)) := by
 refine E2 Tryz.func32 rfl Tryz.ntmps32 rfl ?_
 refine U5 (t := 0) rfl fun hl => ?_
 try simp only [A8] at hl
 refine A3 (A2 ?_)
 refine A1 rfl (B6 rfl E9) ?_
 refine A4 (A3 (A3 (A2 ?_)))
 refine A5 rfl ?_
 refine A1 rfl (F6 rfl C9 (A0 rfl)) ?_
 refine A1 rfl (B8 rfl B4) ?_
 refine A4 (C7 ?_)
 refine J0 [(0, _), (5, _), (6, _)] _ (fun (i : Nat) => i ≤ l.length ∧ areRising l = ((l.drop i).all goodKey && adj Op.bytesLess (l.drop (i - 1)))) (fun (i : Nat) => []) (fun (i : Nat) => [(7, AV.int i)]) (fun (i : Nat) => l.length - i) (0) ?_ (K2 ⟨rfl, rfl, rfl, rfl, trivial⟩) ?_
 ·exact ⟨Nat.zero_le _, rfl⟩
 intro i hinv
 refine A3 (A2 ?_)
 refine A1 rfl (J8 rfl (A0 rfl) (A0 rfl)) ?_
 refine A4 (A3 ?_)
 refine B9 (A0 rfl) ?_ ?_
 ·intro h8
  have k8 := of_decide_eq_true h8; try simp only [A8] at k8
  have hlt : i < l.length := by omega
  obtain ⟨x, hx⟩ := get_some hlt
  obtain ⟨y, hy⟩ := get_some (show i - 1 < l.length by omega)
  have hsx := hs x (F9 hx)
  refine C3 (A3 (C7 (A3 (A2 ?_))))
  refine A5 rfl ?_
  refine A1 rfl (I2 rfl C9 E3 (A0 rfl) (A0 rfl) hx (by first | omega | (simp only [C8, A7, szR] at *; omega))) ?_
  refine A1 rfl (L6 rfl (A0 rfl) G3 rfl) ?_
  refine B3 rfl ?_
  refine B3 rfl ?_
  refine A4 (A3 (A2 ?_))
  refine A5 rfl ?_
  refine A1 rfl (D7 rfl Tryz.call27 rfl (AT4 _ (by omega)) (A6 (A0 rfl) C0)) ?_
  refine A1 rfl (M2 rfl (A0 rfl)) ?_
  refine A5 rfl ?_
  refine F3 rfl (fun hc => B8 rfl (A0 rfl)) ?_
  refine F3 rfl (fun hc => R8 rfl (A9 rfl hc) B4) ?_
  refine F3 rfl (fun hc => B8 rfl (A9 rfl hc)) ?_
  refine J7 rfl rfl (E6 rfl rfl rfl) (fun hc => B8 rfl (A0 rfl)) ?_
  refine J7 rfl rfl (E6 rfl rfl rfl) (fun hc => B8 rfl (A0 rfl)) ?_
  refine J7 rfl rfl (E6 rfl rfl rfl) (fun hc => B8 rfl (A0 rfl)) ?_
  refine J7 rfl rfl (E6 rfl rfl rfl) (fun hc => R7 rfl (A9 rfl hc) B4 (by first | omega | ((try simp only [C8, A7, szR] at *); omega) | (have hc2 := hc; simp only [Q0, beq_iff_eq, bne_iff_ne, A8, D9] at hc2; omega))) ?_
  refine J7 rfl rfl (E6 rfl rfl rfl) (fun hc => I2 rfl C9 E3 (A9 rfl hc) (A9 rfl hc) hy (by first | omega | ((try simp only [C8, A7, szR] at *); omega) | (have hc2 := hc; simp only [Q0, beq_iff_eq, bne_iff_ne, A8, D9] at hc2; omega))) ?_
  refine J7 rfl rfl (E6 rfl rfl rfl) (fun hc => L6 rfl (A9 rfl hc) G3 rfl) ?_
  refine J7 rfl rfl (E6 rfl rfl rfl) (fun hc => Ad0 rfl (A9 rfl hc) (A9 rfl hc)) ?_
  refine F3 rfl (fun hc => J5 rfl (A9 rfl hc) (T1 rfl hc)) ?_
  refine A1 rfl (Q8 rfl (A0 rfl) (F7 rfl)) ?_
  refine A4 ?_
  refine B9 (A0 rfl) ?_ ?_
  ·intro h27
   have hfin : areRising l = false := by rw [hinv.2]; cases hg : goodKey x with | false => (rw [s8 hx hg]; simp) | true => (have hb : 0 < i ∧ Op.bytesLess y x = false := (by have := T4 y x; simp_all; try grind); rw [s7 hx hy hb.1 hb.2]; simp)
   refine A3 (A2 ?_)
   refine A1 rfl (B6 rfl E9) ?_
   refine A4 ?_
   refine C2 ?_
   exact I3 rfl (C1 rfl (by first | exact congrArg AV.bool hfin.symm | exact congrArg AV.bool (by rw [hinv.2, j9 hge, f7 hge]; rfl)))
  intro h27
  have hg : goodKey x = true ∧ (0 < i → Op.bytesLess y x = true) := by have := T4 y x; simp_all
  refine C3 (A2 ?_)
  refine A1 rfl (G0 rfl (A0 rfl) B4 (by first | omega | (simp only [C8, A7, szR] at *; omega))) ?_
  refine A5 rfl ?_
  refine A4 ?_
  refine K4 i (i + 1) ?_ ?_ (K2 ⟨rfl, rfl, rfl, rfl, trivial⟩)
  ·exact ⟨by omega, by rw [hinv.2, y7 hx hg.1, s6 hx hy hg.2]⟩
  omega
 intro h8
 have k8 := of_decide_eq_false h8; try simp only [A8] at k8
 have hge : l.length ≤ i := by omega
 refine G1 ?_
 refine A3 (A2 ?_)
 refine A1 rfl (B6 rfl E9) ?_
 refine A4 ?_
 refine C2 ?_
 exact I3 rfl (C1 rfl (by first | exact congrArg AV.bool hfin.symm | exact congrArg AV.bool (by rw [hinv.2, j9 hge, f7 hge]; rfl)))
theorem AK8 (l : List TWrite) (hs : sizeL TWrite.size l ≤ 4194304) : FSpec Tryz.prog 101 [AV.list 3 (l.map TWrite.cs)] (strs (wKeys l)) := by
 have hl : l.length ≤ 4194304 := Nat.le_trans O4 hs
 refine E2 Tryz.func101 rfl Tryz.ntmps101 rfl ?_
 refine A3 (A2 ?_)
 refine A1 rfl (B6 rfl (a8 (sz := 1))) ?_
 refine A4 (A3 (A2 ?_))
 refine U6 rfl rfl rfl rfl C9 E3 ?_
 intro v6
 refine B3 rfl ?_
 refine A4 (A3 (A3 (A2 ?_)))
 refine A5 rfl ?_
 refine A1 rfl (F6 rfl D1 (A0 rfl)) ?_
 refine A1 rfl (B8 rfl B4) ?_
 refine A4 (C7 ?_)
 refine P3 [(2, _), (7, _), (8, _)] _ (fun (i : Nat) (v : Value) => i ≤ l.length) (fun (i : Nat) (v : Value) => [.arr v 9 1 ((l.take i).map fun w => [AV.str w.Key])]) (fun (i : Nat) (v : Value) => [(3, AV.is v), (9, AV.int i)]) (fun (i : Nat) (v : Value) => l.length - i) (0) (v6) ?_ (O8 (by rfl) ⟨rfl, rfl, rfl, rfl, rfl, trivial⟩) ?_
 ·exact Nat.zero_le _
 intro i v hinv
 refine A3 (A2 ?_)
 refine A1 rfl (J8 rfl (A0 rfl) (A0 rfl)) ?_
 refine A4 (A3 ?_)
 refine B9 (A0 rfl) ?_ ?_
 ·intro h10
  have k10 := of_decide_eq_true h10; try simp only [A8] at k10
  have hlt : i < l.length := by omega
  obtain ⟨x, hx⟩ := get_some hlt
  refine C3 (A3 (C7 (A3 (A2 ?_))))
  refine A1 rfl (I2 rfl D1 E5 (A0 rfl) (A0 rfl) hx (by first | omega | (simp only [C8, A7, szR] at *; omega))) ?_
  refine A1 rfl (K6 rfl (A0 rfl) P8 E5) ?_
  refine F5 rfl rfl rfl rfl Tryz.zeroValue79 rfl ?_
  intro b5
  refine D2 0 rfl rfl rfl (A0 rfl) (A0 rfl) (D6 _) rfl E5 rfl ?_
  refine A4 (A2 ?_)
  refine A5 rfl ?_
  refine A1 rfl (B1 0 rfl J3 rfl E3 (A0 rfl) rfl) ?_
  refine A1 rfl (B0 0 rfl (A0 rfl) rfl G3 rfl) ?_
  refine A1 rfl (K9 rfl C9 E3 Tryz.zeroValue9 rfl rfl rfl rfl (D0 (A0 rfl) (L7 _) G9) rfl rfl) ?_
  refine L2 (by' := 16) 1 rfl rfl rfl rfl C9 Tryz.type9 rfl rfl rfl rfl rfl rfl (A0 rfl) (A0 rfl) rfl (by first | omega | (simp only [C8, A7, szR] at *; omega)) ?_
  intro v17_1
  refine B3 rfl ?_
  refine A4 (A2 ?_)
  refine A1 rfl (G0 rfl (A0 rfl) B4 (by first | omega | (simp only [C8, A7, szR] at *; omega))) ?_
  refine A5 rfl ?_
  refine A4 ?_
  refine O2 i v (i + 1) (v17_1) ?_ ?_ (K0 1 (by exact congrArg (fun z => [Own.arr v17_1 9 1 z]) (Y3 (f := fun w : TWrite => [AV.str w.Key]) hx)) ⟨rfl, rfl, rfl, rfl, rfl, trivial⟩)
  ·omega
  omega
 intro h10
 have k10 := of_decide_eq_false h10; try simp only [A8] at k10
 have hge : l.length ≤ i := by omega
 rw [List.take_of_length_le hge]
 refine G1 ?_
 refine A3 (A2 ?_)
 refine A5 rfl ?_
 refine B3 rfl ?_
 refine A4 ?_
 refine C2 ?_
 refine AM6 0 2 rfl rfl ?_
 exact I3 rfl (C1 rfl (by exact congrArg (AV.list 1) (by unfold wKeys; rw [List.map_map]; rfl)))
theorem Ab2 (w : TWrite) (h : w.size ≤ 4194304) : FSpec Tryz.prog 115 [AV.agg w.cs] (AV.bool (!isStored w.Val w.Gone)) := by
 unfold TWrite.size at h
 refine E2 Tryz.func115 rfl Tryz.ntmps115 rfl ?_
 refine A3 (A2 ?_)
 refine N1 rfl rfl rfl rfl (A0 rfl) ?_
 intro b1
 refine A1 rfl (B6 rfl E9) ?_
 refine A4 (A3 (A2 ?_))
 refine A1 rfl (B1 1 rfl J3 rfl E3 (A0 rfl) rfl) ?_
 refine A1 rfl (B0 0 rfl (A0 rfl) rfl G3 rfl) ?_
 refine A1 rfl (B1 2 rfl J3 rfl N2 (A0 rfl) rfl) ?_
 refine A1 rfl (B0 0 rfl (A0 rfl) rfl O5 rfl) ?_
 refine A1 rfl (D7 rfl Tryz.call116 rfl (AP7 _ _ (by omega)) (A6 (A0 rfl) (A6 (A0 rfl) C0))) ?_
 refine A1 rfl (M2 rfl (A0 rfl)) ?_
 refine B3 rfl ?_
 refine A4 ?_
 refine C2 ?_
 exact I3 rfl (C1 rfl (by first | rfl | (refine congrArg AV.bool ?_; simp_all; done)))
theorem AG9 (l : List TWrite) (hs : sizeL TWrite.size l ≤ 4194304) : FSpec Tryz.prog 80 [AV.list 3 (l.map TWrite.cs)] (AV.bool (goodWrites l)) := by
 have hm : ∀ x ∈ l, x.size ≤ 4194304 := fun x hx => Nat.le_trans (o7 hx) hs
 refine E2 Tryz.func80 rfl Tryz.ntmps80 rfl ?_
 refine A3 (A2 ?_)
 refine A1 rfl (B6 rfl E9) ?_
 refine A4 (A3 (A2 ?_))
 refine A5 rfl ?_
 refine A1 rfl (F6 rfl D1 (A0 rfl)) ?_
 refine A1 rfl (X2 rfl (A0 rfl) B4) ?_
 refine A5 rfl ?_
 refine D3 rfl (fun hc => B8 rfl (A0 rfl)) ?_
 refine D3 rfl (fun hc => D7 rfl Tryz.call101 rfl (AK8 _ (by assumption)) (A6 (A9 rfl hc) C0)) ?_
 refine D3 rfl (fun hc => D7 rfl Tryz.call32 rfl (q6 _ (by first | assumption | exact BH0 (by assumption))) (A6 (A9 rfl hc) C0)) ?_
 refine A1 rfl (J5 rfl (A0 rfl) (F7 rfl)) ?_
 refine A5 rfl ?_
 refine D3 rfl (fun hc => B8 rfl (A0 rfl)) ?_
 refine D3 rfl (fun hc => D7 rfl Tryz.call114 rfl (m1 _ _ _ (by first | (intros; trivial) | assumption | (intros; first | trivial | (simp_all; done)))) (A6 (A9 rfl hc) (A6 (BC1 Tryz.call115 (fun w h => Ab2 w h)) C0))) ?_
 refine D3 rfl (fun hc => M2 rfl (A9 rfl hc)) ?_
 refine A1 rfl (J5 rfl (A0 rfl) (F7 rfl)) ?_
 refine B3 rfl ?_
 refine A4 ?_
 refine C2 ?_
 exact I3 rfl (C1 rfl (by exact congrArg AV.bool (by unfold goodWrites; simp only [A8])))
theorem AQ0 (l : List TWrite) (hs : sizeL TWrite.size l ≤ 1048576) : FSpec Tryz.prog 46 [AV.list 3 (l.map TWrite.cs)] (AV.bool (l3Writes l)) := by
 refine E2 Tryz.func46 rfl Tryz.ntmps46 rfl ?_
 refine U5 (t := 0) rfl fun hl => ?_
 try simp only [A8] at hl
 refine A3 (A2 ?_)
 refine A1 rfl (B6 rfl E9) ?_
 refine A4 (A3 (A3 (A2 ?_)))
 refine A5 rfl ?_
 refine A1 rfl (F6 rfl D1 (A0 rfl)) ?_
 refine A1 rfl (B8 rfl B4) ?_
 refine A4 (C7 ?_)
 refine J0 [(0, _), (5, _), (6, _)] _ (fun (i : Nat) => i ≤ l.length ∧ (l.all wGood && adj wLess l) = ((l.drop i).all wGood && adj wLess (l.drop (i - 1)))) (fun (i : Nat) => []) (fun (i : Nat) => [(7, AV.int i)]) (fun (i : Nat) => l.length - i) (0) ?_ (K2 ⟨rfl, rfl, rfl, rfl, trivial⟩) ?_
 ·exact ⟨Nat.zero_le _, rfl⟩
 intro i hinv
 refine A3 (A2 ?_)
 refine A1 rfl (J8 rfl (A0 rfl) (A0 rfl)) ?_
 refine A4 (A3 ?_)
 refine B9 (A0 rfl) ?_ ?_
 ·intro h8
  have k8 := of_decide_eq_true h8; try simp only [A8] at k8
  have hlt : i < l.length := by omega
  obtain ⟨x, hx⟩ := get_some hlt
  obtain ⟨y, hy⟩ := get_some (show i - 1 < l.length by omega)
  have hsx : x.size ≤ 1048576 := Nat.le_trans (Y5 hx) hs
  unfold TWrite.size at hsx
  refine C3 (A3 (C7 (A3 (A2 ?_))))
  refine A5 rfl ?_
  refine A1 rfl (I2 rfl D1 E5 (A0 rfl) (A0 rfl) hx (by first | omega | (simp only [C8, A7, szR] at *; omega))) ?_
  refine A1 rfl (K6 rfl (A0 rfl) P8 E5) ?_
  refine F5 rfl rfl rfl rfl Tryz.zeroValue79 rfl ?_
  intro b4
  refine B3 rfl ?_
  refine D2 0 rfl rfl rfl (A0 rfl) (A0 rfl) (D6 _) rfl E5 rfl ?_
  refine A4 (A3 ?_)
  refine L1 (by kernel_rfl) (by kernel_rfl) rfl ?_
  refine B2 rfl rfl (B1 0 rfl J3 rfl E3 (A0 rfl) rfl) ?_
  refine B2 rfl rfl (B0 0 rfl (A0 rfl) rfl G3 rfl) ?_
  refine B2 rfl rfl (B1 1 rfl J3 rfl E3 (A0 rfl) rfl) ?_
  refine B2 rfl rfl (B0 0 rfl (A0 rfl) rfl G3 rfl) ?_
  refine B2 rfl rfl (B1 2 rfl J3 rfl N2 (A0 rfl) rfl) ?_
  refine B2 rfl rfl (B0 0 rfl (A0 rfl) rfl O5 rfl) ?_
  refine B2 rfl rfl (D7 rfl Tryz.call83 rfl (AT6 _ _ _ (by omega) (by omega)) (A6 (A0 rfl) (A6 (A0 rfl) (A6 (A0 rfl) C0)))) ?_
  refine B2 rfl rfl (M2 rfl (A0 rfl)) ?_
  refine B2 rfl rfl (B8 rfl (A0 rfl)) ?_
  refine E0 rfl (J1 rfl rfl rfl) (fun hc => B8 rfl (A0 rfl)) ?_
  refine E0 rfl (J1 rfl rfl rfl) (fun hc => R8 rfl (A9 rfl hc) B4) ?_
  refine E0 rfl (J1 rfl rfl rfl) (fun hc => B8 rfl (A9 rfl hc)) ?_
  refine E0 rfl (E6 rfl rfl rfl) (fun hc => B8 rfl (A0 rfl)) ?_
  refine E0 rfl (E6 rfl rfl rfl) (fun hc => B8 rfl (A0 rfl)) ?_
  refine E0 rfl (E6 rfl rfl rfl) (fun hc => R7 rfl (A9 rfl hc) B4 (by first | omega | ((try simp only [C8, A7, szR] at *); omega) | (have hc2 := hc; simp only [Q0, beq_iff_eq, bne_iff_ne, A8, D9] at hc2; omega))) ?_
  refine E0 rfl (E6 rfl rfl rfl) (fun hc => I2 rfl D1 E5 (A9 rfl hc) (A9 rfl hc) hy (by first | omega | ((try simp only [C8, A7, szR] at *); omega) | (have hc2 := hc; simp only [Q0, beq_iff_eq, bne_iff_ne, A8, D9] at hc2; omega))) ?_
  refine E0 rfl (E6 rfl rfl rfl) (fun hc => X1 rfl J3 rfl E3 (A9 rfl hc) rfl) ?_
  refine E0 rfl (E6 rfl rfl rfl) (fun hc => L6 rfl (A9 rfl hc) G3 rfl) ?_
  refine E0 rfl (E6 rfl rfl rfl) (fun hc => B1 0 rfl J3 rfl E3 (A0 rfl) rfl) ?_
  refine E0 rfl (E6 rfl rfl rfl) (fun hc => B0 0 rfl (A9 rfl hc) rfl G3 rfl) ?_
  refine E0 rfl (E6 rfl rfl rfl) (fun hc => Ad1 rfl (A9 rfl hc) (A9 rfl hc)) ?_
  refine E0 rfl (J1 rfl rfl rfl) (fun hc => J5 rfl (A9 rfl hc) (T1 rfl hc)) ?_
  refine B2 rfl rfl (Q8 rfl (A0 rfl) (F7 rfl)) ?_
  refine P7 ?_
  refine B9 (A0 rfl) ?_ ?_
  ·intro h34
   have hfin : l3Writes l = false := by unfold l3Writes; rw [hinv.2]; cases hg : wGood x with | false => (rw [s8 hx hg]; simp) | true => (have hb : 0 < i ∧ wLess y x = false := (by unfold wGood at hg; unfold wLess; simp_all; try grind); rw [s7 hx hy hb.1 hb.2]; simp)
   refine A3 (A2 ?_)
   refine A1 rfl (B6 rfl E9) ?_
   refine A4 ?_
   refine C2 ?_
   exact I3 rfl (C1 rfl (by first | exact congrArg AV.bool hfin.symm | exact congrArg AV.bool (by unfold l3Writes; rw [hinv.2, j9 hge, f7 hge, A8]; simp)))
  intro h34
  have hg : wGood x = true ∧ (0 < i → wLess y x = true) := by unfold wGood wLess; simp_all
  refine C3 (A2 ?_)
  refine A1 rfl (G0 rfl (A0 rfl) B4 (by first | omega | (simp only [C8, A7, szR] at *; omega))) ?_
  refine A5 rfl ?_
  refine A4 ?_
  refine K4 i (i + 1) ?_ ?_ (X3 1 ⟨rfl, rfl, rfl, rfl, trivial⟩)
  ·exact ⟨by omega, by rw [hinv.2, y7 hx hg.1, s6 hx hy hg.2]⟩
  omega
 intro h8
 have k8 := of_decide_eq_false h8; try simp only [A8] at k8
 have hge : l.length ≤ i := by omega
 refine G1 ?_
 refine A3 (A2 ?_)
 refine A5 rfl ?_
 refine A1 rfl (F6 rfl D1 (A0 rfl)) ?_
 refine A1 rfl (X2 rfl (A0 rfl) B4) ?_
 refine B3 rfl ?_
 refine A4 ?_
 refine C2 ?_
 exact I3 rfl (C1 rfl (by first | exact congrArg AV.bool hfin.symm | exact congrArg AV.bool (by unfold l3Writes; rw [hinv.2, j9 hge, f7 hge, A8]; simp)))
end Go.Proofs.YtoaoicnnimjbeaaGreat

namespace Go.Proofs.YtoaoicnnimjbeaaGreat
open Go Go.AV Go.M
attribute [local irreducible] OpW OpA OpS AWP FSpec ESpec RetOk RvDen Le Ev GuardIs
theorem Ae9 (w : TWrite) (k : Str) : FSpec Tryz.prog 151 [AV.agg w.cs, AV.str k] (AV.int (wCmp k w)) := by
 refine E2 Tryz.func151 rfl Tryz.ntmps151 rfl ?_
 refine A3 (A2 ?_)
 refine N1 rfl rfl rfl rfl (A0 rfl) ?_
 intro b2
 refine A1 rfl (B6 rfl B4) ?_
 refine A4 (A3 (A2 ?_))
 refine A1 rfl (B1 0 rfl J3 rfl E3 (A0 rfl) rfl) ?_
 refine A1 rfl (B0 0 rfl (A0 rfl) rfl G3 rfl) ?_
 refine A5 rfl ?_
 refine A1 rfl (D7 rfl Tryz.call152 rfl (AY4 _ _) (A6 (A0 rfl) (A6 (A0 rfl) C0))) ?_
 refine B3 rfl ?_
 refine A4 ?_
 refine C2 ?_
 exact I3 rfl (C1 rfl (by first | rfl | (refine congrArg AV.bool ?_; simp_all; done)))
theorem AK9 (l : List TWrite) (k : Str) (hs : l.length ≤ 4611686018427387903) : FSpec Tryz.prog 112 [AV.list 3 (l.map TWrite.cs), AV.str k] (AV.tup [AV.int (wPos l k), AV.bool (wHas l k)]) := by
 refine E2 Tryz.func112 rfl Tryz.ntmps112 rfl ?_
 refine A3 (A2 ?_)
 refine A1 rfl (B6 rfl B4) ?_
 refine A1 rfl (B6 rfl E9) ?_
 refine A4 (A3 (A2 ?_))
 refine A5 rfl ?_
 refine A5 rfl ?_
 refine A1 rfl (D7 rfl Tryz.call150 rfl (AI4 _ _ _ (by first | (intros; trivial) | assumption | (intros; first | trivial | (simp_all; done))) _ (by omega)) (A6 (A0 rfl) (A6 (A0 rfl) (A6 (Ag7 Tryz.call151 (fun w k (_ : True) => Ae9 w k)) C0)))) ?_
 refine A1 rfl (G6 rfl (A0 rfl) rfl) ?_
 refine A1 rfl (G6 rfl (A0 rfl) rfl) ?_
 refine B3 rfl ?_
 refine B3 rfl ?_
 refine A4 ?_
 refine C2 ?_
 exact X8 rfl (by decide) (E7 (C1 rfl (by first | rfl | (refine congrArg AV.bool ?_; simp_all; done))) (E7 (C1 rfl (by first | rfl | (refine congrArg AV.bool ?_; simp_all; done))) M0))
end Go.Proofs.YtoaoicnnimjbeaaGreat

namespace Go.Proofs.YtoaoicnnimjbeaaGreat
open Go Go.AV Go.M
attribute [local irreducible] OpW OpA OpS AWP FSpec ESpec RetOk RvDen Le Ev GuardIs
theorem j6 {c : TCell} {n : Nat} (h : c.size ≤ n) : c.Key.length ≤ n ∧ c.Vers.length ≤ n ∧ sizeL TVer.size c.Vers ≤ n := by
  unfold TCell.size at h
  have : c.Vers.length ≤ n := Nat.le_trans O4 (show sizeL TVer.size c.Vers ≤ n by omega)
  omega
theorem AI5 (t : Int) : FSpec Tryz.prog 40 [AV.int t] (AV.bool (isTrue t)) := by
 refine E2 Tryz.func40 rfl Tryz.ntmps40 rfl ?_
 refine A3 (A2 ?_)
 refine A1 rfl (B6 rfl E9) ?_
 refine A4 (A3 (A2 ?_))
 refine A5 rfl ?_
 refine A1 rfl (D7 rfl Tryz.call61 rfl (m0 _ _ _) (A6 (A0 rfl) (A6 B4 (A6 B4 C0)))) ?_
 refine B3 rfl ?_
 refine A4 ?_
 refine C2 ?_
 exact I3 rfl (C1 rfl (by first | rfl | (refine congrArg AV.bool ?_; simp_all; done)))
theorem o3 (t : Int) : FSpec Tryz.prog 104 [AV.int t] (AV.bool (within t 1 100000)) := by
 refine E2 Tryz.func104 rfl Tryz.ntmps104 rfl ?_
 refine A3 (A2 ?_)
 refine A1 rfl (B6 rfl E9) ?_
 refine A4 (A3 (A2 ?_))
 refine A5 rfl ?_
 refine A1 rfl (D7 rfl Tryz.call63 rfl (f0 _ _ _) (A6 (A0 rfl) (A6 B4 (A6 B4 C0)))) ?_
 refine B3 rfl ?_
 refine A4 ?_
 refine C2 ?_
 exact I3 rfl (C1 rfl (by first | rfl | (refine congrArg AV.bool ?_; simp_all; done)))
theorem AA9 (t : Int) : FSpec Tryz.prog 43 [AV.int t] (AV.bool (isTrue t)) := by
 refine E2 Tryz.func43 rfl Tryz.ntmps43 rfl ?_
 refine A3 (A2 ?_)
 refine A1 rfl (B6 rfl E9) ?_
 refine A4 (A3 (A2 ?_))
 refine A5 rfl ?_
 refine A1 rfl (D7 rfl Tryz.call63 rfl (f0 _ _ _) (A6 (A0 rfl) (A6 B4 (A6 B4 C0)))) ?_
 refine B3 rfl ?_
 refine A4 ?_
 refine C2 ?_
 exact I3 rfl (C1 rfl (by first | rfl | (refine congrArg AV.bool ?_; simp_all; done)))
theorem Az5 (c : TCell) (hs : c.size ≤ 4194304) : FSpec Tryz.prog 84 [AV.agg c.cs] (AV.bool (isCell c)) := by
 have hcl := j6 hs
 refine E2 Tryz.func84 rfl Tryz.ntmps84 rfl ?_
 refine A3 (A2 ?_)
 refine N1 rfl rfl rfl rfl (A0 rfl) ?_
 intro b1
 refine A1 rfl (B6 rfl E9) ?_
 refine A4 (A3 (A3 (A2 ?_)))
 refine A1 rfl (B1 1 rfl I1 rfl P9 (A0 rfl) rfl) ?_
 refine A1 rfl (B0 0 rfl (A0 rfl) rfl S3 rfl) ?_
 refine A1 rfl (F6 rfl L3 (A0 rfl)) ?_
 refine A1 rfl (B8 rfl B4) ?_
 refine A4 (C7 ?_)
 refine J0 [(1, _), (6, _), (7, _)] _ (fun (i : Nat) => i ≤ c.Vers.length ∧ (c.Vers.all verGood && adj verLess c.Vers) = ((c.Vers.drop i).all verGood && adj verLess (c.Vers.drop (i - 1)))) (fun (i : Nat) => []) (fun (i : Nat) => [(8, AV.int i)]) (fun (i : Nat) => c.Vers.length - i) (0) ?_ (K2 ⟨rfl, rfl, rfl, rfl, trivial⟩) ?_
 ·exact ⟨Nat.zero_le _, rfl⟩
 intro i hinv
 refine A3 (A2 ?_)
 refine A1 rfl (J8 rfl (A0 rfl) (A0 rfl)) ?_
 refine A4 (A3 ?_)
 refine B9 (A0 rfl) ?_ ?_
 ·intro h9
  have k9 := of_decide_eq_true h9; try simp only [A8] at k9
  have hlt : i < c.Vers.length := by omega
  obtain ⟨x, hx⟩ := get_some hlt
  obtain ⟨y, hy⟩ := get_some (show i - 1 < c.Vers.length by omega)
  have hsx : x.size ≤ 4194304 := Nat.le_trans (Y5 hx) hcl.2.2
  unfold TVer.size at hsx
  refine C3 (A3 (C7 (A3 (A2 ?_))))
  refine A5 rfl ?_
  refine A1 rfl (I2 rfl L3 N9 (A0 rfl) (A0 rfl) hx (by first | omega | (simp only [C8, A7, szR] at *; omega))) ?_
  refine A1 rfl (K6 rfl (A0 rfl) Y8 N9) ?_
  refine F5 rfl rfl rfl rfl Tryz.zeroValue117 rfl ?_
  intro b4
  refine B3 rfl ?_
  refine D2 0 rfl rfl rfl (A0 rfl) (A0 rfl) (D6 _) rfl N9 rfl ?_
  refine A4 (A3 ?_)
  refine L1 (by kernel_rfl) (by kernel_rfl) rfl ?_
  refine B2 rfl rfl (B1 0 rfl Q9 rfl B5 (A0 rfl) rfl) ?_
  refine B2 rfl rfl (B0 0 rfl (A0 rfl) rfl C6 rfl) ?_
  refine B2 rfl rfl (D7 rfl Tryz.call122 rfl (o1 _) (A6 (A0 rfl) C0)) ?_
  refine B2 rfl rfl (M2 rfl (A0 rfl)) ?_
  refine B2 rfl rfl (B8 rfl (A0 rfl)) ?_
  refine E0 rfl (J1 rfl rfl rfl) (fun hc => B1 1 rfl Q9 rfl E3 (A0 rfl) rfl) ?_
  refine E0 rfl (J1 rfl rfl rfl) (fun hc => B0 0 rfl (A9 rfl hc) rfl G3 rfl) ?_
  refine E0 rfl (J1 rfl rfl rfl) (fun hc => B1 2 rfl Q9 rfl N2 (A0 rfl) rfl) ?_
  refine E0 rfl (J1 rfl rfl rfl) (fun hc => B0 0 rfl (A9 rfl hc) rfl O5 rfl) ?_
  refine E0 rfl (J1 rfl rfl rfl) (fun hc => D7 rfl Tryz.call116 rfl (AP7 _ _ (by omega)) (A6 (A9 rfl hc) (A6 (A9 rfl hc) C0))) ?_
  refine E0 rfl (J1 rfl rfl rfl) (fun hc => M2 rfl (A9 rfl hc)) ?_
  refine B2 rfl rfl (Q8 rfl (A0 rfl) (F7 rfl)) ?_
  refine B2 rfl rfl (B8 rfl (A0 rfl)) ?_
  refine E0 rfl (J1 rfl rfl rfl) (fun hc => B8 rfl (A0 rfl)) ?_
  refine E0 rfl (J1 rfl rfl rfl) (fun hc => R8 rfl (A9 rfl hc) B4) ?_
  refine E0 rfl (J1 rfl rfl rfl) (fun hc => B8 rfl (A9 rfl hc)) ?_
  refine E0 rfl (E6 rfl rfl rfl) (fun hc => B1 0 rfl Q9 rfl B5 (A0 rfl) rfl) ?_
  refine E0 rfl (E6 rfl rfl rfl) (fun hc => B0 0 rfl (A9 rfl hc) rfl C6 rfl) ?_
  refine E0 rfl (E6 rfl rfl rfl) (fun hc => B1 1 rfl I1 rfl P9 (A0 rfl) rfl) ?_
  refine E0 rfl (E6 rfl rfl rfl) (fun hc => B0 1 rfl (A9 rfl hc) rfl S3 rfl) ?_
  refine E0 rfl (E6 rfl rfl rfl) (fun hc => B8 rfl (A0 rfl)) ?_
  refine E0 rfl (E6 rfl rfl rfl) (fun hc => R7 rfl (A9 rfl hc) B4 (by first | omega | ((try simp only [C8, A7, szR] at *); omega) | (have hc2 := hc; simp only [Q0, beq_iff_eq, bne_iff_ne, A8, D9] at hc2; omega))) ?_
  refine E0 rfl (E6 rfl rfl rfl) (fun hc => I2 rfl L3 N9 (A9 rfl hc) (A9 rfl hc) hy (by first | omega | ((try simp only [C8, A7, szR] at *); omega) | (have hc2 := hc; simp only [Q0, beq_iff_eq, bne_iff_ne, A8, D9] at hc2; omega))) ?_
  refine E0 rfl (E6 rfl rfl rfl) (fun hc => X1 rfl Q9 rfl B5 (A9 rfl hc) rfl) ?_
  refine E0 rfl (E6 rfl rfl rfl) (fun hc => L6 rfl (A9 rfl hc) C6 rfl) ?_
  refine E0 rfl (E6 rfl rfl rfl) (fun hc => X2 rfl (A9 rfl hc) (A9 rfl hc)) ?_
  refine E0 rfl (J1 rfl rfl rfl) (fun hc => J5 rfl (A9 rfl hc) (T1 rfl hc)) ?_
  refine B2 rfl rfl (Q8 rfl (A0 rfl) (F7 rfl)) ?_
  refine P7 ?_
  refine B9 (A0 rfl) ?_ ?_
  ·intro h40
   have hfin : isCell c = false := by unfold isCell; rw [hinv.2]; cases hg : verGood x with | false => (rw [s8 hx hg]; simp) | true => (have hb : 0 < i ∧ verLess y x = false := (by unfold verGood at hg; unfold verLess; simp_all; try grind); rw [s7 hx hy hb.1 hb.2]; simp)
   refine A3 (A2 ?_)
   refine A1 rfl (B6 rfl E9) ?_
   refine A4 ?_
   refine C2 ?_
   exact I3 rfl (C1 rfl (by first | exact congrArg AV.bool hfin.symm | exact congrArg AV.bool (by unfold isCell; rw [hinv.2, j9 hge, f7 hge]; simp)))
  intro h40
  have hg : verGood x = true ∧ (0 < i → verLess y x = true) := by unfold verGood verLess; simp_all
  refine C3 (A2 ?_)
  refine A1 rfl (G0 rfl (A0 rfl) B4 (by first | omega | (simp only [C8, A7, szR] at *; omega))) ?_
  refine A5 rfl ?_
  refine A4 ?_
  refine K4 i (i + 1) ?_ ?_ (X3 1 ⟨rfl, rfl, rfl, rfl, trivial⟩)
  ·exact ⟨by omega, by rw [hinv.2, y7 hx hg.1, s6 hx hy hg.2]⟩
  omega
 intro h9
 have k9 := of_decide_eq_false h9; try simp only [A8] at k9
 have hge : c.Vers.length ≤ i := by omega
 refine G1 ?_
 refine A3 (A2 ?_)
 refine A1 rfl (B1 1 rfl I1 rfl P9 (A0 rfl) rfl) ?_
 refine A1 rfl (B0 0 rfl (A0 rfl) rfl S3 rfl) ?_
 refine A1 rfl (F6 rfl L3 (A0 rfl)) ?_
 refine A1 rfl (D7 rfl Tryz.call61 rfl (m0 _ _ _) (A6 (A0 rfl) (A6 B4 (A6 B4 C0)))) ?_
 refine B3 rfl ?_
 refine A4 ?_
 refine C2 ?_
 exact I3 rfl (C1 rfl (by first | exact congrArg AV.bool hfin.symm | exact congrArg AV.bool (by unfold isCell; rw [hinv.2, j9 hge, f7 hge]; simp)))
theorem Az6 (c : TCell) (hs : c.size ≤ 4194304) : FSpec Tryz.prog 157 [AV.agg c.cs] (AV.bool (l3Cell c)) := by
 have hcl := j6 hs
 refine E2 Tryz.func157 rfl Tryz.ntmps157 rfl ?_
 refine A3 (A2 ?_)
 refine N1 rfl rfl rfl rfl (A0 rfl) ?_
 intro b1
 refine A1 rfl (B6 rfl E9) ?_
 refine A4 (A3 (A3 (A2 ?_)))
 refine A1 rfl (B1 1 rfl I1 rfl P9 (A0 rfl) rfl) ?_
 refine A1 rfl (B0 0 rfl (A0 rfl) rfl S3 rfl) ?_
 refine A1 rfl (F6 rfl L3 (A0 rfl)) ?_
 refine A1 rfl (B8 rfl B4) ?_
 refine A4 (C7 ?_)
 refine J0 [(1, _), (6, _), (7, _)] _ (fun (i : Nat) => i ≤ c.Vers.length ∧ (c.Vers.all (verGoodS c.Key) && adj verLess c.Vers) = ((c.Vers.drop i).all (verGoodS c.Key) && adj verLess (c.Vers.drop (i - 1)))) (fun (i : Nat) => []) (fun (i : Nat) => [(8, AV.int i)]) (fun (i : Nat) => c.Vers.length - i) (0) ?_ (K2 ⟨rfl, rfl, rfl, rfl, trivial⟩) ?_
 ·exact ⟨Nat.zero_le _, rfl⟩
 intro i hinv
 refine A3 (A2 ?_)
 refine A1 rfl (J8 rfl (A0 rfl) (A0 rfl)) ?_
 refine A4 (A3 ?_)
 refine B9 (A0 rfl) ?_ ?_
 ·intro h9
  have k9 := of_decide_eq_true h9; try simp only [A8] at k9
  have hlt : i < c.Vers.length := by omega
  obtain ⟨x, hx⟩ := get_some hlt
  obtain ⟨y, hy⟩ := get_some (show i - 1 < c.Vers.length by omega)
  have hsx : x.size ≤ 4194304 := Nat.le_trans (Y5 hx) hcl.2.2
  unfold TVer.size at hsx
  refine C3 (A3 (C7 (A3 (A2 ?_))))
  refine A5 rfl ?_
  refine A1 rfl (I2 rfl L3 N9 (A0 rfl) (A0 rfl) hx (by first | omega | (simp only [C8, A7, szR] at *; omega))) ?_
  refine A1 rfl (K6 rfl (A0 rfl) Y8 N9) ?_
  refine F5 rfl rfl rfl rfl Tryz.zeroValue117 rfl ?_
  intro b4
  refine B3 rfl ?_
  refine D2 0 rfl rfl rfl (A0 rfl) (A0 rfl) (D6 _) rfl N9 rfl ?_
  refine A4 (A3 ?_)
  refine L1 (by kernel_rfl) (by kernel_rfl) rfl ?_
  refine B2 rfl rfl (B1 0 rfl Q9 rfl B5 (A0 rfl) rfl) ?_
  refine B2 rfl rfl (B0 0 rfl (A0 rfl) rfl C6 rfl) ?_
  refine B2 rfl rfl (D7 rfl Tryz.call104 rfl (o3 _) (A6 (A0 rfl) C0)) ?_
  refine B2 rfl rfl (M2 rfl (A0 rfl)) ?_
  refine B2 rfl rfl (B8 rfl (A0 rfl)) ?_
  refine E0 rfl (J1 rfl rfl rfl) (fun hc => B1 0 rfl I1 rfl E3 (A0 rfl) rfl) ?_
  refine E0 rfl (J1 rfl rfl rfl) (fun hc => B0 1 rfl (A9 rfl hc) rfl G3 rfl) ?_
  refine E0 rfl (J1 rfl rfl rfl) (fun hc => B1 1 rfl Q9 rfl E3 (A0 rfl) rfl) ?_
  refine E0 rfl (J1 rfl rfl rfl) (fun hc => B0 0 rfl (A9 rfl hc) rfl G3 rfl) ?_
  refine E0 rfl (J1 rfl rfl rfl) (fun hc => B1 2 rfl Q9 rfl N2 (A0 rfl) rfl) ?_
  refine E0 rfl (J1 rfl rfl rfl) (fun hc => B0 0 rfl (A9 rfl hc) rfl O5 rfl) ?_
  refine E0 rfl (J1 rfl rfl rfl) (fun hc => D7 rfl Tryz.call83 rfl (AT6 _ _ _ (by omega) (by omega)) (A6 (A9 rfl hc) (A6 (A9 rfl hc) (A6 (A9 rfl hc) C0)))) ?_
  refine E0 rfl (J1 rfl rfl rfl) (fun hc => M2 rfl (A9 rfl hc)) ?_
  refine B2 rfl rfl (Q8 rfl (A0 rfl) (F7 rfl)) ?_
  refine B2 rfl rfl (B8 rfl (A0 rfl)) ?_
  refine E0 rfl (J1 rfl rfl rfl) (fun hc => B8 rfl (A0 rfl)) ?_
  refine E0 rfl (J1 rfl rfl rfl) (fun hc => R8 rfl (A9 rfl hc) B4) ?_
  refine E0 rfl (J1 rfl rfl rfl) (fun hc => B8 rfl (A9 rfl hc)) ?_
  refine E0 rfl (E6 rfl rfl rfl) (fun hc => B1 1 rfl I1 rfl P9 (A0 rfl) rfl) ?_
  refine E0 rfl (E6 rfl rfl rfl) (fun hc => B0 1 rfl (A9 rfl hc) rfl S3 rfl) ?_
  refine E0 rfl (E6 rfl rfl rfl) (fun hc => B8 rfl (A0 rfl)) ?_
  refine E0 rfl (E6 rfl rfl rfl) (fun hc => R7 rfl (A9 rfl hc) B4 (by first | omega | ((try simp only [C8, A7, szR] at *); omega) | (have hc2 := hc; simp only [Q0, beq_iff_eq, bne_iff_ne, A8, D9] at hc2; omega))) ?_
  refine E0 rfl (E6 rfl rfl rfl) (fun hc => I2 rfl L3 N9 (A9 rfl hc) (A9 rfl hc) hy (by first | omega | ((try simp only [C8, A7, szR] at *); omega) | (have hc2 := hc; simp only [Q0, beq_iff_eq, bne_iff_ne, A8, D9] at hc2; omega))) ?_
  refine E0 rfl (E6 rfl rfl rfl) (fun hc => X1 rfl Q9 rfl B5 (A9 rfl hc) rfl) ?_
  refine E0 rfl (E6 rfl rfl rfl) (fun hc => L6 rfl (A9 rfl hc) C6 rfl) ?_
  refine E0 rfl (E6 rfl rfl rfl) (fun hc => B1 0 rfl Q9 rfl B5 (A0 rfl) rfl) ?_
  refine E0 rfl (E6 rfl rfl rfl) (fun hc => B0 0 rfl (A9 rfl hc) rfl C6 rfl) ?_
  refine E0 rfl (E6 rfl rfl rfl) (fun hc => f5 rfl (A9 rfl hc) (A9 rfl hc)) ?_
  refine E0 rfl (J1 rfl rfl rfl) (fun hc => J5 rfl (A9 rfl hc) (T1 rfl hc)) ?_
  refine B2 rfl rfl (Q8 rfl (A0 rfl) (F7 rfl)) ?_
  refine P7 ?_
  refine B9 (A0 rfl) ?_ ?_
  ·intro h42
   have hfin : l3Cell c = false := by unfold l3Cell; rw [hinv.2]; cases hg : verGoodS c.Key x with | false => (rw [s8 hx hg]; simp) | true => (have hb : 0 < i ∧ verLess y x = false := (by unfold verGoodS at hg; unfold verLess; simp_all; try grind); rw [s7 hx hy hb.1 hb.2]; simp)
   refine A3 (A2 ?_)
   refine A1 rfl (B6 rfl E9) ?_
   refine A4 ?_
   refine C2 ?_
   exact I3 rfl (C1 rfl (by first | exact congrArg AV.bool hfin.symm | exact congrArg AV.bool (by unfold l3Cell; rw [hinv.2, j9 hge, f7 hge]; simp)))
  intro h42
  have hg : verGoodS c.Key x = true ∧ (0 < i → verLess y x = true) := by unfold verGoodS verLess; simp_all
  refine C3 (A2 ?_)
  refine A1 rfl (G0 rfl (A0 rfl) B4 (by first | omega | (simp only [C8, A7, szR] at *; omega))) ?_
  refine A5 rfl ?_
  refine A4 ?_
  refine K4 i (i + 1) ?_ ?_ (X3 1 ⟨rfl, rfl, rfl, rfl, trivial⟩)
  ·exact ⟨by omega, by rw [hinv.2, y7 hx hg.1, s6 hx hy hg.2]⟩
  omega
 intro h9
 have k9 := of_decide_eq_false h9; try simp only [A8] at k9
 have hge : c.Vers.length ≤ i := by omega
 refine G1 ?_
 refine A3 (A2 ?_)
 refine A1 rfl (B1 0 rfl I1 rfl E3 (A0 rfl) rfl) ?_
 refine A1 rfl (B0 0 rfl (A0 rfl) rfl G3 rfl) ?_
 refine A1 rfl (D7 rfl Tryz.call30 rfl (w3 _ (by omega)) (A6 (A0 rfl) C0)) ?_
 refine A5 rfl ?_
 refine D3 rfl (fun hc => B1 1 rfl I1 rfl P9 (A0 rfl) rfl) ?_
 refine D3 rfl (fun hc => B0 0 rfl (A9 rfl hc) rfl S3 rfl) ?_
 refine D3 rfl (fun hc => F6 rfl L3 (A9 rfl hc)) ?_
 refine D3 rfl (fun hc => D7 rfl Tryz.call63 rfl (f0 _ _ _) (A6 (A9 rfl hc) (A6 B4 (A6 B4 C0)))) ?_
 refine A1 rfl (J5 rfl (A0 rfl) (F7 rfl)) ?_
 refine B3 rfl ?_
 refine A4 ?_
 refine C2 ?_
 exact I3 rfl (C1 rfl (by first | exact congrArg AV.bool hfin.symm | exact congrArg AV.bool (by unfold l3Cell; rw [hinv.2, j9 hge, f7 hge]; simp)))
theorem AL0 (l : List TCell) (hs : sizeL TCell.size l ≤ 4194304) : FSpec Tryz.prog 47 [AV.list 2 (l.map TCell.cs)] (AV.bool (goodCells l)) := by
 have hl : l.length ≤ 4194304 := Nat.le_trans O4 hs
 have hks : ∀ k ∈ cKeys l, k.length ≤ 4611686018427387904 := fun k hk => by
  obtain ⟨w, hw, rfl⟩ := List.mem_map.1 hk
  have := j6 (Nat.le_trans (o7 hw) hs)
  omega
 refine E2 Tryz.func47 rfl Tryz.ntmps47 rfl ?_
 refine A3 (A2 ?_)
 refine A1 rfl (B6 rfl E9) ?_
 refine A4 (A3 (A2 ?_))
 refine U6 rfl rfl rfl rfl C9 E3 ?_
 intro v6
 refine B3 rfl ?_
 refine A4 (A3 (A3 (A2 ?_)))
 refine A5 rfl ?_
 refine A1 rfl (F6 rfl F2 (A0 rfl)) ?_
 refine A1 rfl (B8 rfl B4) ?_
 refine A4 (C7 ?_)
 refine P3 [(0, _), (7, _), (8, _)] _ (fun (i : Nat) (v : Value) => i ≤ l.length ∧ l.all isCell = (l.drop i).all isCell) (fun (i : Nat) (v : Value) => [.arr v 9 1 ((l.take i).map fun w => [AV.str w.Key])]) (fun (i : Nat) (v : Value) => [(3, AV.is v), (9, AV.int i)]) (fun (i : Nat) (v : Value) => l.length - i) (0) (v6) ?_ (O8 (by rfl) ⟨rfl, rfl, rfl, rfl, rfl, trivial⟩) ?_
 ·exact ⟨Nat.zero_le _, rfl⟩
 intro i v hinv
 refine A3 (A2 ?_)
 refine A1 rfl (J8 rfl (A0 rfl) (A0 rfl)) ?_
 refine A4 (A3 ?_)
 refine B9 (A0 rfl) ?_ ?_
 ·intro h10
  have k10 := of_decide_eq_true h10; try simp only [A8] at k10
  have hlt : i < l.length := by omega
  obtain ⟨x, hx⟩ := get_some hlt
  have hsx : x.size ≤ 4194304 := Nat.le_trans (Y5 hx) hs
  refine C3 (A3 (C7 (A3 (A2 ?_))))
  refine A1 rfl (I2 rfl F2 G5 (A0 rfl) (A0 rfl) hx (by first | omega | (simp only [C8, A7, szR] at *; omega))) ?_
  refine A1 rfl (K6 rfl (A0 rfl) U8 G5) ?_
  refine F5 rfl rfl rfl rfl Tryz.zeroValue115 rfl ?_
  intro b5
  refine D2 0 rfl rfl rfl (A0 rfl) (A0 rfl) (D6 _) rfl G5 rfl ?_
  refine A4 (A3 (A3 (A2 ?_)))
  refine A1 rfl (F1 0 rfl (A0 rfl) rfl U8 G5 rfl) ?_
  refine A1 rfl (D7 rfl Tryz.call84 rfl (Az5 _ (by first | assumption | omega)) (A6 (A0 rfl) C0)) ?_
  refine A1 rfl (M2 rfl (A0 rfl)) ?_
  refine A4 ?_
  refine B9 (A0 rfl) ?_ ?_
  ·intro h15
   refine A3 (A2 ?_)
   refine A1 rfl (B6 rfl E9) ?_
   refine A4 ?_
   refine C2 ?_
   exact I3 rfl (C1 rfl (by first | exact congrArg AV.bool (by unfold goodCells; rw [hinv.2, s8 hx (by simpa using h15)]; rfl) | exact congrArg AV.bool (by unfold goodCells; rw [hinv.2, j9 hge, A8]; simp)))
  intro h15
  refine C3 (A2 ?_)
  refine A5 rfl ?_
  refine A1 rfl (B1 0 rfl I1 rfl E3 (A0 rfl) rfl) ?_
  refine A1 rfl (B0 0 rfl (A0 rfl) rfl G3 rfl) ?_
  refine A1 rfl (K9 rfl C9 E3 Tryz.zeroValue9 rfl rfl rfl rfl (D0 (A0 rfl) (L7 _) G9) rfl rfl) ?_
  refine L2 (by' := 16) 1 rfl rfl rfl rfl C9 Tryz.type9 rfl rfl rfl rfl rfl rfl (A0 rfl) (A0 rfl) rfl (by first | omega | (simp only [C8, A7, szR] at *; omega)) ?_
  intro v20_1
  refine B3 rfl ?_
  refine A4 (A2 ?_)
  refine A1 rfl (G0 rfl (A0 rfl) B4 (by first | omega | (simp only [C8, A7, szR] at *; omega))) ?_
  refine A5 rfl ?_
  refine A4 ?_
  refine O2 i v (i + 1) (v20_1) ?_ ?_ (K0 1 (by exact congrArg (fun z => [Own.arr v20_1 9 1 z]) (Y3 (f := fun w : TCell => [AV.str w.Key]) hx)) ⟨rfl, rfl, rfl, rfl, rfl, trivial⟩)
  ·exact ⟨by omega, by rw [hinv.2, y7 hx (by simpa using h15)]⟩
  omega
 intro h10
 have k10 := of_decide_eq_false h10; try simp only [A8] at k10
 have hge : l.length ≤ i := by omega
 rw [List.take_of_length_le hge, show (l.map fun w => [AV.str w.Key]) = (cKeys l).map (fun k => [AV.str k]) from by unfold cKeys; rw [List.map_map]; rfl]
 refine G1 ?_
 refine A3 (A2 ?_)
 refine A5 rfl ?_
 refine A1 rfl (F6 rfl F2 (A0 rfl)) ?_
 refine A1 rfl (X2 rfl (A0 rfl) B4) ?_
 refine A5 rfl ?_
 refine D3 rfl (fun hc => B8 rfl (A0 rfl)) ?_
 refine D3 rfl (fun hc => j8 rfl Tryz.call32 rfl (q6 (cKeys l) hks) (H2 _) (U9 (AW1 0 (A9 rfl hc) rfl) Z8)) ?_
 refine A1 rfl (J5 rfl (A0 rfl) (F7 rfl)) ?_
 refine B3 rfl ?_
 refine A4 ?_
 refine C2 ?_
 exact I3 rfl (C1 rfl (by first | exact congrArg AV.bool (by unfold goodCells; rw [hinv.2, s8 hx (by simpa using h15)]; rfl) | exact congrArg AV.bool (by unfold goodCells; rw [hinv.2, j9 hge, A8]; simp)))
theorem AY5 (l : List TCell) (hs : sizeL TCell.size l ≤ 4194304) : FSpec Tryz.prog 117 [AV.list 2 (l.map TCell.cs)] (AV.bool (l3Good l)) := by
 refine E2 Tryz.func117 rfl Tryz.ntmps117 rfl ?_
 refine U5 (t := 0) rfl fun hl => ?_
 try simp only [A8] at hl
 refine A3 (A2 ?_)
 refine A1 rfl (B6 rfl E9) ?_
 refine A4 (A3 (A3 (A2 ?_)))
 refine A5 rfl ?_
 refine A1 rfl (F6 rfl F2 (A0 rfl)) ?_
 refine A1 rfl (B8 rfl B4) ?_
 refine A4 (C7 ?_)
 refine J0 [(0, _), (5, _), (6, _)] _ (fun (i : Nat) => i ≤ l.length ∧ (l.all l3Cell && adj cLess l) = ((l.drop i).all l3Cell && adj cLess (l.drop (i - 1)))) (fun (i : Nat) => []) (fun (i : Nat) => [(7, AV.int i)]) (fun (i : Nat) => l.length - i) (0) ?_ (K2 ⟨rfl, rfl, rfl, rfl, trivial⟩) ?_
 ·exact ⟨Nat.zero_le _, rfl⟩
 intro i hinv
 refine A3 (A2 ?_)
 refine A1 rfl (J8 rfl (A0 rfl) (A0 rfl)) ?_
 refine A4 (A3 ?_)
 refine B9 (A0 rfl) ?_ ?_
 ·intro h8
  have k8 := of_decide_eq_true h8; try simp only [A8] at k8
  have hlt : i < l.length := by omega
  obtain ⟨x, hx⟩ := get_some hlt
  obtain ⟨y, hy⟩ := get_some (show i - 1 < l.length by omega)
  have hsx : x.size ≤ 4194304 := Nat.le_trans (Y5 hx) hs
  refine C3 (A3 (C7 (A3 (A2 ?_))))
  refine A5 rfl ?_
  refine A1 rfl (I2 rfl F2 G5 (A0 rfl) (A0 rfl) hx (by first | omega | (simp only [C8, A7, szR] at *; omega))) ?_
  refine A1 rfl (K6 rfl (A0 rfl) U8 G5) ?_
  refine F5 rfl rfl rfl rfl Tryz.zeroValue115 rfl ?_
  intro b4
  refine B3 rfl ?_
  refine D2 0 rfl rfl rfl (A0 rfl) (A0 rfl) (D6 _) rfl G5 rfl ?_
  refine A4 (A3 ?_)
  refine L1 (by kernel_rfl) (by kernel_rfl) rfl ?_
  refine B2 rfl rfl (F1 0 rfl (A0 rfl) rfl U8 G5 rfl) ?_
  refine B2 rfl rfl (D7 rfl Tryz.call157 rfl (Az6 _ (by first | assumption | omega)) (A6 (A0 rfl) C0)) ?_
  refine B2 rfl rfl (M2 rfl (A0 rfl)) ?_
  refine B2 rfl rfl (B8 rfl (A0 rfl)) ?_
  refine E0 rfl (J1 rfl rfl rfl) (fun hc => B8 rfl (A0 rfl)) ?_
  refine E0 rfl (J1 rfl rfl rfl) (fun hc => R8 rfl (A9 rfl hc) B4) ?_
  refine E0 rfl (J1 rfl rfl rfl) (fun hc => B8 rfl (A9 rfl hc)) ?_
  refine E0 rfl (E6 rfl rfl rfl) (fun hc => B8 rfl (A0 rfl)) ?_
  refine E0 rfl (E6 rfl rfl rfl) (fun hc => B8 rfl (A0 rfl)) ?_
  refine E0 rfl (E6 rfl rfl rfl) (fun hc => R7 rfl (A9 rfl hc) B4 (by first | omega | ((try simp only [C8, A7, szR] at *); omega) | (have hc2 := hc; simp only [Q0, beq_iff_eq, bne_iff_ne, A8, D9] at hc2; omega))) ?_
  refine E0 rfl (E6 rfl rfl rfl) (fun hc => I2 rfl F2 G5 (A9 rfl hc) (A9 rfl hc) hy (by first | omega | ((try simp only [C8, A7, szR] at *); omega) | (have hc2 := hc; simp only [Q0, beq_iff_eq, bne_iff_ne, A8, D9] at hc2; omega))) ?_
  refine E0 rfl (E6 rfl rfl rfl) (fun hc => X1 rfl I1 rfl E3 (A9 rfl hc) rfl) ?_
  refine E0 rfl (E6 rfl rfl rfl) (fun hc => L6 rfl (A9 rfl hc) G3 rfl) ?_
  refine E0 rfl (E6 rfl rfl rfl) (fun hc => B1 0 rfl I1 rfl E3 (A0 rfl) rfl) ?_
  refine E0 rfl (E6 rfl rfl rfl) (fun hc => B0 0 rfl (A9 rfl hc) rfl G3 rfl) ?_
  refine E0 rfl (E6 rfl rfl rfl) (fun hc => Ad1 rfl (A9 rfl hc) (A9 rfl hc)) ?_
  refine E0 rfl (J1 rfl rfl rfl) (fun hc => J5 rfl (A9 rfl hc) (T1 rfl hc)) ?_
  refine B2 rfl rfl (Q8 rfl (A0 rfl) (F7 rfl)) ?_
  refine P7 ?_
  refine B9 (A0 rfl) ?_ ?_
  ·intro h29
   have hfin : l3Good l = false := by unfold l3Good; rw [hinv.2]; cases hg : l3Cell x with | false => (rw [s8 hx hg]; simp) | true => (have hb : 0 < i ∧ cLess y x = false := (by unfold cLess; simp_all; try grind); rw [s7 hx hy hb.1 hb.2]; simp)
   refine A3 (A2 ?_)
   refine A1 rfl (B6 rfl E9) ?_
   refine A4 ?_
   refine C2 ?_
   exact I3 rfl (C1 rfl (by first | exact congrArg AV.bool hfin.symm | exact congrArg AV.bool (by unfold l3Good; rw [hinv.2, j9 hge, f7 hge, A8]; simp)))
  intro h29
  have hg : l3Cell x = true ∧ (0 < i → cLess y x = true) := by unfold cLess; simp_all
  refine C3 (A2 ?_)
  refine A1 rfl (G0 rfl (A0 rfl) B4 (by first | omega | (simp only [C8, A7, szR] at *; omega))) ?_
  refine A5 rfl ?_
  refine A4 ?_
  refine K4 i (i + 1) ?_ ?_ (X3 1 ⟨rfl, rfl, rfl, rfl, trivial⟩)
  ·exact ⟨by omega, by rw [hinv.2, y7 hx hg.1, s6 hx hy hg.2]⟩
  omega
 intro h8
 have k8 := of_decide_eq_false h8; try simp only [A8] at k8
 have hge : l.length ≤ i := by omega
 refine G1 ?_
 refine A3 (A2 ?_)
 refine A5 rfl ?_
 refine A1 rfl (F6 rfl F2 (A0 rfl)) ?_
 refine A1 rfl (X2 rfl (A0 rfl) B4) ?_
 refine B3 rfl ?_
 refine A4 ?_
 refine C2 ?_
 exact I3 rfl (C1 rfl (by first | exact congrArg AV.bool hfin.symm | exact congrArg AV.bool (by unfold l3Good; rw [hinv.2, j9 hge, f7 hge, A8]; simp)))
theorem Ah8 (c : TCell) (k : Str) : FSpec Tryz.prog 168 [AV.agg c.cs, AV.str k] (AV.int (cCmp k c)) := by
 refine E2 Tryz.func168 rfl Tryz.ntmps168 rfl ?_
 refine A3 (A2 ?_)
 refine N1 rfl rfl rfl rfl (A0 rfl) ?_
 intro b2
 refine A1 rfl (B6 rfl B4) ?_
 refine A4 (A3 (A2 ?_))
 refine A1 rfl (B1 0 rfl I1 rfl E3 (A0 rfl) rfl) ?_
 refine A1 rfl (B0 0 rfl (A0 rfl) rfl G3 rfl) ?_
 refine A5 rfl ?_
 refine A1 rfl (D7 rfl Tryz.call152 rfl (AY4 _ _) (A6 (A0 rfl) (A6 (A0 rfl) C0))) ?_
 refine B3 rfl ?_
 refine A4 ?_
 refine C2 ?_
 exact I3 rfl (C1 rfl (by first | rfl | (refine congrArg AV.bool ?_; simp_all; done)))
theorem AQ1 (l : List TCell) (k : Str) (hs : l.length ≤ 4611686018427387903) : FSpec Tryz.prog 136 [AV.list 2 (l.map TCell.cs), AV.str k] (AV.tup [AV.int (cPos l k), AV.bool (cHas l k)]) := by
 refine E2 Tryz.func136 rfl Tryz.ntmps136 rfl ?_
 refine A3 (A2 ?_)
 refine A1 rfl (B6 rfl B4) ?_
 refine A1 rfl (B6 rfl E9) ?_
 refine A4 (A3 (A2 ?_))
 refine A5 rfl ?_
 refine A5 rfl ?_
 refine A1 rfl (D7 rfl Tryz.call167 rfl (AK5 _ _ _ (by first | (intros; trivial) | assumption | (intros; first | trivial | (simp_all; done))) _ (by omega)) (A6 (A0 rfl) (A6 (A0 rfl) (A6 (Ag7 Tryz.call168 (fun c k (_ : True) => Ah8 c k)) C0)))) ?_
 refine A1 rfl (G6 rfl (A0 rfl) rfl) ?_
 refine A1 rfl (G6 rfl (A0 rfl) rfl) ?_
 refine B3 rfl ?_
 refine B3 rfl ?_
 refine A4 ?_
 refine C2 ?_
 exact X8 rfl (by decide) (E7 (C1 rfl (by first | rfl | (refine congrArg AV.bool ?_; simp_all; done))) (E7 (C1 rfl (by first | rfl | (refine congrArg AV.bool ?_; simp_all; done))) M0))
theorem Am0 {c : TCell} (h : 1 ≤ c.Vers.length) : ∃ v, c.Vers[c.Vers.length - 1]? = some v ∧ lastV c = v.Time := by
  obtain ⟨v, hv⟩ := get_some (show c.Vers.length - 1 < c.Vers.length by omega)
  refine ⟨v, hv, ?_⟩
  unfold lastV; rw [List.getLast?_eq_getElem?, hv]
theorem AQ2 (l : List TCell) (k : Str) (ho : CellsOk l) (hs : sizeL TCell.size l ≤ 4194304) : FSpec Tryz.prog 94 [AV.list 2 (l.map TCell.cs), AV.str k] (AV.int (lastTime l k)) := by
 have hl : l.length ≤ 4194304 := Nat.le_trans O4 hs
 refine E2 Tryz.func94 rfl Tryz.ntmps94 rfl ?_
 refine A3 (A2 ?_)
 refine A1 rfl (B6 rfl B4) ?_
 refine A4 (A3 (A2 ?_))
 refine A5 rfl ?_
 refine A5 rfl ?_
 refine A1 rfl (D7 rfl Tryz.call136 rfl (AQ1 _ _ (by first | assumption | omega)) (A6 (A0 rfl) (A6 (A0 rfl) C0))) ?_
 refine A5 rfl ?_
 refine A1 rfl (G6 rfl (A0 rfl) rfl) ?_
 refine A1 rfl (G6 rfl (A0 rfl) rfl) ?_
 refine B3 rfl ?_
 refine B3 rfl ?_
 refine A4 (A3 (A3 (A2 ?_)))
 refine A5 rfl ?_
 refine A1 rfl (M2 rfl (A0 rfl)) ?_
 refine A4 ?_
 refine B9 (A0 rfl) ?_ ?_
 ·intro h14
  have hn : cHas l k = false := by simpa using h14
  have he : lastTime l k = 0 := by unfold lastTime; rw [Aa8 ho.1, hn]; rfl
  rw [he]
  refine A3 (A2 ?_)
  refine A1 rfl (B6 rfl B4) ?_
  refine A4 ?_
  refine C2 ?_
  exact I3 rfl (C1 rfl (by first | rfl | (refine congrArg AV.bool ?_; simp_all; done)))
 intro h14
 have hn : cHas l k = true := by simpa using h14
 obtain ⟨c, hc, hck⟩ := AN7.1 hn
 obtain ⟨v, hv, hlv⟩ := Am0 (ho.2 c (F9 hc))
 have hcl := j6 (Nat.le_trans (Y5 hc) hs)
 have hc1 := ho.2 c (F9 hc)
 have he : lastTime l k = v.Time := by unfold lastTime; rw [Aa8 ho.1, hn, if_pos rfl, hc]; exact hlv
 rw [he]
 refine C3 (A3 ?_)
 refine L1 (by kernel_rfl) (by kernel_rfl) rfl ?_
 refine B2 rfl rfl (B8 rfl (A0 rfl)) ?_
 refine B2 rfl rfl (B8 rfl (A0 rfl)) ?_
 refine B2 rfl rfl (I2 rfl F2 G5 (A0 rfl) (A0 rfl) hc (by first | omega | (simp only [C8, A7, szR] at *; omega))) ?_
 refine B2 rfl rfl (X1 rfl I1 rfl P9 (A0 rfl) rfl) ?_
 refine B2 rfl rfl (L6 rfl (A0 rfl) S3 rfl) ?_
 refine B2 rfl rfl (B8 rfl (A0 rfl)) ?_
 refine B2 rfl rfl (B8 rfl (A0 rfl)) ?_
 refine B2 rfl rfl (I2 rfl F2 G5 (A0 rfl) (A0 rfl) hc (by first | omega | (simp only [C8, A7, szR] at *; omega))) ?_
 refine B2 rfl rfl (X1 rfl I1 rfl P9 (A0 rfl) rfl) ?_
 refine B2 rfl rfl (L6 rfl (A0 rfl) S3 rfl) ?_
 refine B2 rfl rfl (F6 rfl L3 (A0 rfl)) ?_
 refine B2 rfl rfl (R7 rfl (A0 rfl) B4 (by first | omega | (simp only [C8, A7, szR] at *; omega))) ?_
 refine B2 rfl rfl (I2 rfl L3 N9 (A0 rfl) (A0 rfl) hv (by first | omega | (simp only [C8, A7, szR] at *; omega))) ?_
 refine B2 rfl rfl (X1 rfl Q9 rfl B5 (A0 rfl) rfl) ?_
 refine B2 rfl rfl (L6 rfl (A0 rfl) C6 rfl) ?_
 refine B2 rfl rfl (B6 rfl (A0 rfl)) ?_
 refine P7 ?_
 refine C2 ?_
 exact I3 rfl (C1 rfl (by first | rfl | (refine congrArg AV.bool ?_; simp_all; done)))
theorem Am1 (l : List TCell) (k : Str) : FSpec Tryz.prog 160 [AV.list 2 (l.map TCell.cs), AV.str k] (AV.int (atC l k)) := by
 refine E2 Tryz.func160 rfl Tryz.ntmps160 rfl ?_
 refine U5 (t := 0) rfl fun hl => ?_
 try simp only [A8] at hl
 refine A3 (A2 ?_)
 refine A1 rfl (B6 rfl B4) ?_
 refine A4 (A3 (A3 (A2 ?_)))
 refine A5 rfl ?_
 refine A1 rfl (F6 rfl F2 (A0 rfl)) ?_
 refine A1 rfl (B8 rfl B4) ?_
 refine A4 (C7 ?_)
 refine J0 [(1, _), (7, _), (8, _)] _ (fun (i : Nat) => i ≤ l.length ∧ ∀ j x, j < i → l[j]? = some x → x.Key ≠ k) (fun (i : Nat) => []) (fun (i : Nat) => [(9, AV.int i)]) (fun (i : Nat) => l.length - i) (0) ?_ (K2 ⟨rfl, rfl, rfl, rfl, trivial⟩) ?_
 ·exact ⟨Nat.zero_le _, fun j x h => by omega⟩
 intro i hinv
 refine A3 (A2 ?_)
 refine A1 rfl (J8 rfl (A0 rfl) (A0 rfl)) ?_
 refine A4 (A3 ?_)
 refine B9 (A0 rfl) ?_ ?_
 ·intro h10
  have k10 := of_decide_eq_true h10; try simp only [A8] at k10
  have hlt : i < l.length := by omega
  obtain ⟨x, hx⟩ := get_some hlt
  refine C3 (A3 (C7 (A3 (A2 ?_))))
  refine A5 rfl ?_
  refine A1 rfl (I2 rfl F2 G5 (A0 rfl) (A0 rfl) hx (by first | omega | (simp only [C8, A7, szR] at *; omega))) ?_
  refine A1 rfl (K6 rfl (A0 rfl) U8 G5) ?_
  refine F5 rfl rfl rfl rfl Tryz.zeroValue115 rfl ?_
  intro b6
  refine B3 rfl ?_
  refine D2 0 rfl rfl rfl (A0 rfl) (A0 rfl) (D6 _) rfl G5 rfl ?_
  refine A4 (A3 (A2 ?_))
  refine A1 rfl (B1 0 rfl I1 rfl E3 (A0 rfl) rfl) ?_
  refine A1 rfl (B0 0 rfl (A0 rfl) rfl G3 rfl) ?_
  refine A5 rfl ?_
  refine A1 rfl (u6 rfl (A0 rfl) (A0 rfl)) ?_
  refine A4 ?_
  refine B9 (A0 rfl) ?_ ?_
  ·intro h17
   refine A3 (A2 ?_)
   refine A5 rfl ?_
   refine B3 rfl ?_
   refine A4 ?_
   refine C2 ?_
   exact I3 rfl (C1 rfl (by first | exact congrArg AV.int (At3 hx (by simpa using h17) hinv.2).symm | exact congrArg AV.int (At4 fun j x hx => hinv.2 j x (Nat.lt_of_lt_of_le (List.getElem?_eq_some_iff.1 hx).1 hge) hx).symm))
  intro h17
  refine C3 (A2 ?_)
  refine A1 rfl (G0 rfl (A0 rfl) B4 (by first | omega | (simp only [C8, A7, szR] at *; omega))) ?_
  refine A5 rfl ?_
  refine A4 ?_
  refine K4 i (i + 1) ?_ ?_ (X3 1 ⟨rfl, rfl, rfl, rfl, trivial⟩)
  ·exact ⟨by omega, fun j y hj hy => if hji : j < i then hinv.2 j y hji hy else (by have e : j = i := (by omega); subst e; rw [hx] at hy; injection hy with hy; subst hy; simpa using h17)⟩
  omega
 intro h10
 have k10 := of_decide_eq_false h10; try simp only [A8] at k10
 have hge : l.length ≤ i := by omega
 refine G1 ?_
 refine A3 (A2 ?_)
 refine A1 rfl (B6 rfl B4) ?_
 refine A4 ?_
 refine C2 ?_
 exact I3 rfl (C1 rfl (by first | exact congrArg AV.int (At3 hx (by simpa using h17) hinv.2).symm | exact congrArg AV.int (At4 fun j x hx => hinv.2 j x (Nat.lt_of_lt_of_le (List.getElem?_eq_some_iff.1 hx).1 hge) hx).symm))
theorem AI6 (l : List TCell) (k : Str) (ho : CellsOk l) (hs : sizeL TCell.size l ≤ 4194304) : FSpec Tryz.prog 119 [AV.list 2 (l.map TCell.cs), AV.str k] (AV.int (lastTime l k)) := by
 have hl : l.length ≤ 4194304 := Nat.le_trans O4 hs
 refine E2 Tryz.func119 rfl Tryz.ntmps119 rfl ?_
 refine A3 (A2 ?_)
 refine A1 rfl (B6 rfl B4) ?_
 refine A4 (A3 (A2 ?_))
 refine A5 rfl ?_
 refine A5 rfl ?_
 refine A1 rfl (D7 rfl Tryz.call160 rfl (Am1 _ _) (A6 (A0 rfl) (A6 (A0 rfl) C0))) ?_
 refine B3 rfl ?_
 refine A4 (A3 (A3 (A2 ?_)))
 refine A5 rfl ?_
 refine A1 rfl (J8 rfl (A0 rfl) B4) ?_
 refine A4 ?_
 refine B9 (A0 rfl) ?_ ?_
 ·intro h10
  have k10 := of_decide_eq_true h10; try simp only [A8] at k10
  have hn : findC l k = none := BD2 k10
  have he : lastTime l k = 0 := by unfold lastTime; rw [hn]
  rw [he]
  refine A3 (A2 ?_)
  refine A1 rfl (B6 rfl B4) ?_
  refine A4 ?_
  refine C2 ?_
  exact I3 rfl (C1 rfl (by first | rfl | (refine congrArg AV.bool ?_; simp_all; done)))
 intro h10
 have k10 := of_decide_eq_false h10; try simp only [A8] at k10
 obtain ⟨p, c, hp, hc, hf⟩ := BD3 k10
 rw [hp]
 obtain ⟨v, hv, hlv⟩ := Am0 (ho.2 c (F9 hc))
 have hcl := j6 (Nat.le_trans (Y5 hc) hs)
 have hc1 := ho.2 c (F9 hc)
 have he : lastTime l k = v.Time := by unfold lastTime; rw [hf]; exact hlv
 rw [he]
 refine C3 (A3 ?_)
 refine L1 (by kernel_rfl) (by kernel_rfl) rfl ?_
 refine B2 rfl rfl (B8 rfl (A0 rfl)) ?_
 refine B2 rfl rfl (B8 rfl (A0 rfl)) ?_
 refine B2 rfl rfl (I2 rfl F2 G5 (A0 rfl) (A0 rfl) hc (by first | omega | (simp only [C8, A7, szR] at *; omega))) ?_
 refine B2 rfl rfl (X1 rfl I1 rfl P9 (A0 rfl) rfl) ?_
 refine B2 rfl rfl (L6 rfl (A0 rfl) S3 rfl) ?_
 refine B2 rfl rfl (B8 rfl (A0 rfl)) ?_
 refine B2 rfl rfl (B8 rfl (A0 rfl)) ?_
 refine B2 rfl rfl (I2 rfl F2 G5 (A0 rfl) (A0 rfl) hc (by first | omega | (simp only [C8, A7, szR] at *; omega))) ?_
 refine B2 rfl rfl (X1 rfl I1 rfl P9 (A0 rfl) rfl) ?_
 refine B2 rfl rfl (L6 rfl (A0 rfl) S3 rfl) ?_
 refine B2 rfl rfl (F6 rfl L3 (A0 rfl)) ?_
 refine B2 rfl rfl (R7 rfl (A0 rfl) B4 (by first | omega | (simp only [C8, A7, szR] at *; omega))) ?_
 refine B2 rfl rfl (I2 rfl L3 N9 (A0 rfl) (A0 rfl) hv (by first | omega | (simp only [C8, A7, szR] at *; omega))) ?_
 refine B2 rfl rfl (X1 rfl Q9 rfl B5 (A0 rfl) rfl) ?_
 refine B2 rfl rfl (L6 rfl (A0 rfl) C6 rfl) ?_
 refine B2 rfl rfl (B6 rfl (A0 rfl)) ?_
 refine P7 ?_
 refine C2 ?_
 exact I3 rfl (C1 rfl (by first | rfl | (refine congrArg AV.bool ?_; simp_all; done)))
theorem Af0 (a b : List TCell) (hs : sizeL TCell.size a ≤ 4194304) : FSpec Tryz.prog 89 [AV.list 2 (a.map TCell.cs), AV.list 2 (b.map TCell.cs)] (AV.bool (decide (a = b))) := by
 refine E2 Tryz.func89 rfl Tryz.ntmps89 rfl ?_
 refine U5 (t := 0) rfl fun hl => ?_
 try simp only [A8] at hl
 refine A3 (A2 ?_)
 refine A1 rfl (B6 rfl E9) ?_
 refine A4 (A3 (A3 (A2 ?_)))
 refine A5 rfl ?_
 refine A1 rfl (F6 rfl F2 (A0 rfl)) ?_
 refine A5 rfl ?_
 refine A1 rfl (F6 rfl F2 (A0 rfl)) ?_
 refine A1 rfl (Z7 rfl (A0 rfl) (A0 rfl)) ?_
 refine A4 ?_
 refine B9 (A0 rfl) ?_ ?_
 ·intro h13
  have k13 := l0 h13; try simp only [A8] at k13
  have hab : a ≠ b := by intro hc; subst hc; exact k13 rfl
  refine A3 (A2 ?_)
  refine A1 rfl (B6 rfl E9) ?_
  refine A4 ?_
  refine C2 ?_
  exact I3 rfl (C1 rfl (by exact congrArg AV.bool (by simp [hab])))
 intro h13
 have k13 := X7 h13; try simp only [A8] at k13
 have heq : a.length = b.length := by omega
 refine C3 (A3 (A3 (A2 ?_)))
 refine A5 rfl ?_
 refine A1 rfl (F6 rfl F2 (A0 rfl)) ?_
 refine A1 rfl (B8 rfl B4) ?_
 refine A4 (C7 ?_)
 refine J0 [(1, _), (14, _), (15, _)] _ (fun (i : Nat) => i ≤ a.length ∧ a.take i = b.take i) (fun (i : Nat) => []) (fun (i : Nat) => [(16, AV.int i)]) (fun (i : Nat) => a.length - i) (0) ?_ (K2 ⟨rfl, rfl, rfl, rfl, trivial⟩) ?_
 ·exact ⟨Nat.zero_le _, rfl⟩
 intro i hinv
 refine A3 (A2 ?_)
 refine A1 rfl (J8 rfl (A0 rfl) (A0 rfl)) ?_
 refine A4 (A3 ?_)
 refine B9 (A0 rfl) ?_ ?_
 ·intro h17
  have k17 := of_decide_eq_true h17; try simp only [A8] at k17
  have hlt : i < a.length := by omega
  obtain ⟨x, hx⟩ := get_some hlt
  obtain ⟨y, hy⟩ := get_some (show i < b.length by omega)
  refine C3 (A3 (C7 (A3 (A2 ?_))))
  refine A5 rfl ?_
  refine A1 rfl (I2 rfl F2 G5 (A0 rfl) (A0 rfl) hx (by first | omega | (simp only [C8, A7, szR] at *; omega))) ?_
  refine A1 rfl (K6 rfl (A0 rfl) U8 G5) ?_
  refine F5 rfl rfl rfl rfl Tryz.zeroValue115 rfl ?_
  intro b6
  refine B3 rfl ?_
  refine D2 0 rfl rfl rfl (A0 rfl) (A0 rfl) (D6 _) rfl G5 rfl ?_
  refine A4 (A3 (A2 ?_))
  refine A5 rfl ?_
  refine A5 rfl ?_
  refine A1 rfl (I2 rfl F2 G5 (A0 rfl) (A0 rfl) hy (by first | omega | (simp only [C8, A7, szR] at *; omega))) ?_
  refine A1 rfl (K6 rfl (A0 rfl) U8 G5) ?_
  refine F5 rfl rfl rfl rfl Tryz.zeroValue115 rfl ?_
  intro b7
  refine D2 0 rfl rfl rfl (A0 rfl) (A0 rfl) (D6 _) rfl G5 rfl ?_
  refine A4 (A3 (A3 (A2 ?_)))
  refine A1 rfl (B1 0 rfl I1 rfl E3 (A0 rfl) rfl) ?_
  refine A1 rfl (B0 1 rfl (A0 rfl) rfl G3 rfl) ?_
  refine A1 rfl (B1 0 rfl I1 rfl E3 (A0 rfl) rfl) ?_
  refine A1 rfl (B0 0 rfl (A0 rfl) rfl G3 rfl) ?_
  refine A1 rfl (AJ3 rfl (A0 rfl) (A0 rfl)) ?_
  refine A5 rfl ?_
  refine F3 rfl (fun hc => B1 1 rfl I1 rfl P9 (A0 rfl) rfl) ?_
  refine F3 rfl (fun hc => B0 1 rfl (A9 rfl hc) rfl S3 rfl) ?_
  refine F3 rfl (fun hc => F6 rfl L3 (A9 rfl hc)) ?_
  refine F3 rfl (fun hc => B1 1 rfl I1 rfl P9 (A0 rfl) rfl) ?_
  refine F3 rfl (fun hc => B0 0 rfl (A9 rfl hc) rfl S3 rfl) ?_
  refine F3 rfl (fun hc => F6 rfl L3 (A9 rfl hc)) ?_
  refine F3 rfl (fun hc => Z7 rfl (A9 rfl hc) (A9 rfl hc)) ?_
  refine A1 rfl (Q8 rfl (A0 rfl) (F7 rfl)) ?_
  refine A4 ?_
  refine B9 (A0 rfl) ?_ ?_
  ·intro h38
   have hab : a ≠ b := by intro hc; subst hc; rw [hx] at hy; injection hy with hy; subst hy; simp at h38
   refine A3 (A2 ?_)
   refine A1 rfl (B6 rfl E9) ?_
   refine A4 ?_
   refine C2 ?_
   exact I3 rfl (C1 rfl (by exact congrArg AV.bool (by simp [hab])))
  intro h38
  have hke : x.Key = y.Key ∧ x.Vers.length = y.Vers.length := by simp at h38; exact ⟨h38.1, by omega⟩
  refine C3 (A3 (A2 ?_))
  refine A1 rfl (B1 1 rfl I1 rfl P9 (A0 rfl) rfl) ?_
  refine A1 rfl (B0 1 rfl (A0 rfl) rfl S3 rfl) ?_
  refine A1 rfl (F6 rfl L3 (A0 rfl)) ?_
  refine A1 rfl (B8 rfl B4) ?_
  refine A4 (C7 ?_)
  have hinvo := hinv
  have hxl := (j6 (Nat.le_trans (Y5 hx) hs)).2.1
  refine J0 [(1, _), (5, _), (6, _), (7, _), (14, _), (15, _), (16, _), (17, _), (18, _), (19, _), (20, _), (21, _), (22, _), (23, _), (24, _), (25, _), (26, _), (27, _), (28, _), (29, _), (30, _), (38, _), (39, _), (40, _), (41, _)] _ (fun (q : Nat) => q ≤ x.Vers.length ∧ x.Vers.take q = y.Vers.take q) (fun (q : Nat) => []) (fun (q : Nat) => [(42, AV.int q)]) (fun (q : Nat) => x.Vers.length - q) (0) ?_ (K2 ⟨rfl, rfl, rfl, rfl, rfl, rfl, rfl, rfl, rfl, rfl, rfl, rfl, rfl, rfl, rfl, rfl, rfl, rfl, rfl, rfl, rfl, rfl, rfl, rfl, rfl, rfl, trivial⟩) ?_
  ·exact ⟨Nat.zero_le _, rfl⟩
  intro q hinv
  refine A3 (A2 ?_)
  refine A1 rfl (J8 rfl (A0 rfl) (A0 rfl)) ?_
  refine A4 (A3 ?_)
  refine B9 (A0 rfl) ?_ ?_
  ·intro h43
   have k43 := of_decide_eq_true h43; try simp only [A8] at k43
   have hltq : q < x.Vers.length := by omega
   obtain ⟨u, hu⟩ := get_some hltq
   obtain ⟨w, hw⟩ := get_some (show q < y.Vers.length by omega)
   refine C3 (A3 (C7 (A3 (A2 ?_))))
   refine A5 rfl ?_
   refine B3 rfl ?_
   refine A4 (A3 ?_)
   refine L1 (by kernel_rfl) (by kernel_rfl) rfl ?_
   refine B2 rfl rfl (B1 1 rfl I1 rfl P9 (A0 rfl) rfl) ?_
   refine B2 rfl rfl (B0 1 rfl (A0 rfl) rfl S3 rfl) ?_
   refine B2 rfl rfl (B8 rfl (A0 rfl)) ?_
   refine B2 rfl rfl (I2 rfl L3 N9 (A0 rfl) (A0 rfl) hu (by first | omega | (simp only [C8, A7, szR] at *; omega))) ?_
   refine B2 rfl rfl (K6 rfl (A0 rfl) Y8 N9) ?_
   refine B2 rfl rfl (B1 1 rfl I1 rfl P9 (A0 rfl) rfl) ?_
   refine B2 rfl rfl (B0 0 rfl (A0 rfl) rfl S3 rfl) ?_
   refine B2 rfl rfl (B8 rfl (A0 rfl)) ?_
   refine B2 rfl rfl (I2 rfl L3 N9 (A0 rfl) (A0 rfl) hw (by first | omega | (simp only [C8, A7, szR] at *; omega))) ?_
   refine B2 rfl rfl (K6 rfl (A0 rfl) Y8 N9) ?_
   refine B2 rfl rfl (Ad3 rfl Q9 (by kernel_rfl) (by kernel_rfl) (A0 rfl) (A0 rfl) (g6 (by kernel_rfl) C6 rfl rfl (Ag8 W6) (g6 (by kernel_rfl) G3 rfl rfl (AJ6 Q3) (g6 (by kernel_rfl) O5 rfl rfl (AM5 V8) AW2)))) ?_
   refine P7 ?_
   refine B9 (A0 rfl) ?_ ?_
   ·intro h55
    have hab : a ≠ b := by intro hc; subst hc; rw [hx] at hy; injection hy with hy; subst hy; rw [hu] at hw; injection hw with hw; subst hw; simp at h55
    refine A3 (A2 ?_)
    refine A1 rfl (B6 rfl E9) ?_
    refine A4 ?_
    refine C2 ?_
    exact I3 rfl (C1 rfl (by exact congrArg AV.bool (by simp [hab])))
   intro h55
   refine C3 (A2 ?_)
   refine A1 rfl (G0 rfl (A0 rfl) B4 (by first | omega | (simp only [C8, A7, szR] at *; omega))) ?_
   refine A5 rfl ?_
   refine A4 ?_
   refine K4 q (q + 1) ?_ ?_ (K2 ⟨rfl, rfl, rfl, rfl, rfl, rfl, rfl, rfl, rfl, rfl, rfl, rfl, rfl, rfl, rfl, rfl, rfl, rfl, rfl, rfl, rfl, rfl, rfl, rfl, rfl, rfl, trivial⟩)
   ·exact ⟨by omega, Z9 hinv.2 hu (by rw [hw]; congr 1; first | (simp_all; done) | (cases u; cases w; simp_all))⟩
   omega
  intro h43
  have k43 := of_decide_eq_false h43; try simp only [A8] at k43
  have hgq : x.Vers.length ≤ q := by omega
  have hxv := i4 hke.2 hinv.2 hgq
  have hxy : x = y := by cases x; cases y; simp only [TCell.mk.injEq]; exact ⟨hke.1, hxv⟩
  refine G1 ?_
  refine A2 ?_
  refine A1 rfl (G0 rfl (A0 rfl) B4 (by first | omega | (simp only [C8, A7, szR] at *; omega))) ?_
  refine A5 rfl ?_
  refine A4 ?_
  refine K4 i (i + 1) ?_ ?_ (X3 2 ⟨rfl, rfl, rfl, rfl, trivial⟩)
  ·exact ⟨by omega, Z9 hinvo.2 hx (by rw [hy, hxy])⟩
  omega
 intro h17
 have k17 := of_decide_eq_false h17; try simp only [A8] at k17
 have hge : a.length ≤ i := by omega
 have hab : a = b := i4 heq hinv.2 hge
 refine G1 ?_
 refine A3 (A2 ?_)
 refine A1 rfl (B6 rfl E9) ?_
 refine A4 ?_
 refine C2 ?_
 exact I3 rfl (C1 rfl (by exact congrArg AV.bool (by simp [hab])))
end Go.Proofs.YtoaoicnnimjbeaaGreat

namespace Go.AV
section
variable {P : Program} {G : Nat → Prop} {n : Nat} {own : List Own} {o : Oper}
theorem AH0 {rest : List Own} : ∀ b, (fun _ : Nat => False) b → b ∈ rest.filterMap Own.blk := fun _ h => h.elim
theorem O3 {rest : List Own} : ∀ b, blksOf [] b → b ∈ rest.filterMap Own.blk := fun _ ⟨_, h, _⟩ => by simp at h
theorem O0 {q q' : Own} {ow rest : List Own} (i : Nat) (h : rest[i]? = some q') (hb : Own.blk q = Own.blk q') (k : ∀ b, blksOf ow b → b ∈ rest.filterMap Own.blk) : ∀ b, blksOf (q :: ow) b → b ∈ rest.filterMap Own.blk := fun b ⟨x, hx, hxb⟩ => by
  rcases List.mem_cons.1 hx with rfl | hx
  · exact List.mem_filterMap.2 ⟨q', F9 h, hb ▸ hxb⟩
  · exact k b ⟨x, hx, hxb⟩
theorem AO4 {sel rest : List Own} {w0 : World} {R0 R : RHeap} {w : World} (h : Core G w0 R0 (sel ++ rest) R w) (hG : ∀ b, G b → b ∈ rest.filterMap Own.blk) : Core G w0 R0 rest (lend sel w R) w := by
  have hl := W9 h
  refine ⟨h.os, h.tape, h.output, h.size, h.block, AW0 hl, fun b hb => ?_, fun q hq => ?_, fun q hq => h.fresh q (List.mem_append_right _ hq), (AM9 h).sep⟩
  · unfold lend
    cases hob : ownB sel b with
    | true =>
      obtain ⟨x, hx, hxb⟩ := o5 hob
      rcases h.fresh x (List.mem_append_left _ hx) b hxb with h1 | h1
      · omega
      · obtain ⟨y, hy, hyb⟩ := List.mem_filterMap.1 (hG b h1)
        exact absurd hyb (AB6 h.sep hx hy hxb)
    | false => exact h.rold b hb
  · have hk := h.owned q (List.mem_append_right _ hq)
    refine Own.ok_keep hk (f9 hl) fun b hb => ⟨rfl, ?_⟩
    unfold lend
    cases hob : ownB sel b with
    | true =>
      obtain ⟨x, hx, hxb⟩ := o5 hob
      exact absurd hb (AB6 h.sep hx hq hxb)
    | false => exact (Own.ok_blk hk hb).1
theorem X6 {env : List (Nat × AV)} {sel rest : List Own} {x y : AV} (is : List Nat) (t : Nat) (hp : pick own is = (sel, rest)) (ht : getv t env = some x) (hl : LendTo sel x y) (hG : ∀ b, G b → b ∈ rest.filterMap Own.blk) : Le G n ⟨own, env⟩ ⟨rest, (t, y) :: env⟩ := fun w0 R0 R a w ⟨h1, h2, h3⟩ => by
  have hc := m9 h1 hp
  refine ⟨lend sel w R, f9 (W9 hc), AO4 hc hG, fun k z hz => ?_, h3⟩
  simp only [getv] at hz
  by_cases hk : t = k
  · subst hk
    simp [Nat.beq_refl] at hz
    rw [← hz]
    exact hl G w0 R0 R w _ (W9 hc) (h2 t x ht)
  · rw [p6 hk, cond_false] at hz
    exact z.mono (f9 (W9 hc)) (h2 k z hz)
theorem AA1 {ops : Array Oper} {rest : List Oper} {env : List (Nat × AV)} {K : AState → Prop} {d : Nat} {c : Bool} (hd : o.dst = some d) (hn : Nat.blt d n = true) (hg : GuardIs ops o (getv · env) c)
    (ht : c = true → ASeq P G n ops ({ o with guard := none } :: rest) ⟨own, env⟩ K) (hf : c = false → ASeq P G n ops rest ⟨own, (d, AV.is undef) :: env⟩ K) : ASeq P G n ops (o :: rest) ⟨own, env⟩ K := fun w0 R0 R a w hs => by
  have hgc := hg R a fun t _ y hy => hs.2.1 t y hy
  cases c with
  | true =>
    refine ⟨fun _ => ?_, fun hw => by rw [hgc] at hw; exact Bool.noConfusion hw⟩
    exact (ht rfl w0 R0 R a w hs).1 rfl
  | false =>
    refine ⟨fun hw => by rw [hgc] at hw; exact Bool.noConfusion hw, fun _ => ⟨_, R, hf rfl, RSub.refl _, ?_⟩⟩
    obtain ⟨h1, h2, h3, h4⟩ := hs
    refine ⟨h1, ?_, by rw [V1]; exact h3, by rw [R9]; exact h4⟩
    have := e7 (d := o.dst) (x := AV.is undef) (v := undef) h2 (RSub.refl R) (fun q e => by rw [h3]; rw [hd] at e; injection e with e; subst e; exact Nat.blt_eq.mp hn) rfl
    rw [hd] at this ⊢
    exact this
theorem Ah9 {E : EnvF} {p : Operand} {b : Bool} {x : AV} (h : b = false) : EvIf E p b x := fun hb => by rw [h] at hb; cases hb
def bandI (x y : Int) : Int := IntKind.u64.wrap (((BitVec.ofInt IntKind.u64.bits x &&& BitVec.ofInt IntKind.u64.bits y).toNat : Nat) : Int)
theorem w_band {E : EnvF} {t ty : TypeId} {p q : Operand} {x y : Int} (ho : o.op = .binOp .and t p q ty) (hp : Ev E p (AV.ik .u64 x)) (hq : Ev E q (AV.ik .u64 y)) : OpW P G n own o E (AV.ik .u64 (bandI x y)) := P5 fun R a w _ he => by
  have h1 : a.eval p = .int .u64 x := K1 hp (by simp [ho, Op.operands]) he
  have h2 : a.eval q = .int .u64 y := K1 hq (by simp [ho, Op.operands]) he
  exact ⟨.int .u64 (bandI x y), by simp only [execOp, ho, h1, h2]; simp [go_sem]; rfl, rfl⟩
theorem AO5 {ops : Array Oper} {E : EnvF} {x : AV} (h : OpW P G n own o E x) : OpE P G n own ops o E (fun _ : Unit => True) (fun _ => own) (fun _ => x) :=
  fun w0 R0 R a w h1 h2 h3 => Oper.wp_mono2 (fun a' w' ⟨v, R', e1, e2, e3, e4⟩ => ⟨(), v, R', trivial, e1, e2, e3, e4⟩) (fun _ _ _ h => h) (h w0 R0 R a w h1 h2 fun t ht => h3 t (n3 ht))
end
end Go.AV

namespace Go.AV
section
variable {P : Program} {G : Nat → Prop} {n : Nat} {own : List Own} {o : Oper}
def OwnC (sel : List Own) : Own → Own → Prop
  | .box b t cs, .box b' t' cs' => b = b' ∧ t = t' ∧ LendC sel cs cs'
  | .arr v t sz es, .arr v' t' sz' es' => v = v' ∧ t = t' ∧ sz = sz' ∧ LendE sel es es'
  | .frz b t cs, .frz b' t' cs' => b = b' ∧ t = t' ∧ LendC sel cs cs'
  | .tab T, .tab T' => T = T'
  | _, _ => False
def OwnsC (sel own own' : List Own) : Prop := own.length = own'.length ∧ ∀ (i : Nat) (q q' : Own), own[i]? = some q → own'[i]? = some q' → OwnC sel q q'
theorem Au2 {sel : List Own} : OwnsC sel [] [] := ⟨rfl, fun i q q' h => by simp at h⟩
theorem BD6 {sel a b : List Own} {q q' : Own} (h : OwnC sel q q') (k : OwnsC sel a b) : OwnsC sel (q :: a) (q' :: b) := ⟨by simp [k.1], fun i x y hx hy => by
  cases i with
  | zero => simp at hx hy; subst hx; subst hy; exact h
  | succ i => exact k.2 i x y (by simpa using hx) (by simpa using hy)⟩
theorem oc_blk {sel : List Own} {q q' : Own} (h : OwnC sel q q') : Own.blk q = Own.blk q' := by
  cases q <;> cases q' <;> unfold OwnC at h
  · exact congrArg some h.1
  · exact h.elim
  · exact h.elim
  · exact h.elim
  · exact h.elim
  · exact congrArg Value.ownBlock h.1
  · exact h.elim
  · exact h.elim
  · exact h.elim
  · exact h.elim
  · exact congrArg some h.1
  · exact h.elim
  · exact h.elim
  · exact h.elim
  · exact h.elim
  · rfl
theorem oc_map {sel a b : List Own} (h : OwnsC sel a b) : a.map Own.blk = b.map Own.blk := by
  refine List.ext_getElem? fun i => ?_
  rw [List.getElem?_map, List.getElem?_map]
  cases ha : a[i]? with
  | none =>
    have : b[i]? = none := by rw [List.getElem?_eq_none_iff] at ha ⊢; rw [← h.1]; exact ha
    rw [this]
  | some q =>
    have hi : i < b.length := by rw [← h.1]; exact (List.getElem?_eq_some_iff.1 ha).1
    rw [List.getElem?_eq_getElem hi]
    exact congrArg some (oc_blk (h.2 i q _ ha (List.getElem?_eq_getElem hi)))
theorem oc_fm {sel a b : List Own} (h : OwnsC sel a b) : a.filterMap Own.blk = b.filterMap Own.blk := by
  have := congrArg (List.filterMap id) (oc_map h)
  rwa [List.filterMap_map, List.filterMap_map] at this
theorem AT7 {sel : List Own} {xs ys : List AV} {w0 : World} {R0 R : RHeap} {w : World} {vs : List Value} (hc : Core G w0 R0 sel R w) (h : DenC R vs xs) (k : LendC sel xs ys) : DenC (lend sel w R) vs ys :=
  ⟨h.1.trans k.1, fun i v y hv hy => by
    have hi : i < xs.length := by rw [k.1]; exact (List.getElem?_eq_some_iff.1 hy).1
    have hx := List.getElem?_eq_getElem hi
    obtain ⟨h1, h2⟩ := h.2 i v _ hv hx
    exact ⟨k.2 i _ y hx hy G w0 R0 R w v hc h1, h2⟩⟩
theorem AO6 {sel rest rest' : List Own} {w0 : World} {R0 R : RHeap} {w : World} (h : Core G w0 R0 (sel ++ rest) R w) (hG : ∀ b, G b → b ∈ rest.filterMap Own.blk) (hl : OwnsC sel rest rest') : Core G w0 R0 rest' (lend sel w R) w := by
  have hb := AO4 h hG
  have hs := W9 h
  refine ⟨hb.os, hb.tape, hb.output, hb.size, hb.block, hb.rle, hb.rold, fun q' hq' => ?_, fun q' hq' b hqb => ?_, ?_⟩
  · obtain ⟨i, hi⟩ := List.getElem?_of_mem hq'
    have hir : i < rest.length := by rw [hl.1]; exact (List.getElem?_eq_some_iff.1 hi).1
    have hr := List.getElem?_eq_getElem hir
    have hm := F9 hr
    have hoc := hl.2 i _ q' hr hi
    have k1 := hb.owned _ hm
    have k2 := h.owned _ (List.mem_append_right _ hm)
    revert hoc k1 k2
    generalize rest[i] = q
    intro hoc k1 k2
    cases q <;> cases q' <;> unfold OwnC at hoc
    · obtain ⟨rfl, rfl, hc⟩ := hoc
      obtain ⟨_, vs, hv, hd⟩ := k2
      exact ⟨k1.1, vs, hv, AT7 hs hd hc⟩
    · exact hoc.elim
    · exact hoc.elim
    · exact hoc.elim
    · exact hoc.elim
    · obtain ⟨rfl, rfl, rfl, hc⟩ := hoc
      obtain ⟨_, hlen, xs, hx, hd⟩ := k2
      refine ⟨k1.1, fun e he => ?_, xs, ?_, AT7 hs hd (Ag9 hc)⟩
      · obtain ⟨j, hj⟩ := List.getElem?_of_mem he
        have hje := List.getElem?_eq_getElem (show j < _ from hc.1.symm ▸ (List.getElem?_eq_some_iff.1 hj).1)
        rw [← (hc.2 j _ e hje hj).1]
        exact hlen _ (F9 hje)
      · rw [← hc.1]; exact hx
    · exact hoc.elim
    · exact hoc.elim
    · exact hoc.elim
    · exact hoc.elim
    · obtain ⟨rfl, rfl, hc⟩ := hoc
      obtain ⟨_, vs, hv, hd⟩ := k2
      exact ⟨k1.1, vs, hv, AT7 hs hd hc⟩
    · exact hoc.elim
    · exact hoc.elim
    · exact hoc.elim
    · exact hoc.elim
    · exact hoc ▸ k1
  · have hm : (some b) ∈ rest'.map Own.blk := List.mem_map.2 ⟨q', hq', hqb⟩
    rw [← oc_map hl] at hm
    obtain ⟨q, hq, hqb2⟩ := List.mem_map.1 hm
    exact hb.fresh q hq b hqb2
  · rw [← oc_fm hl]; exact hb.sep
theorem AI7 {α β : Type} {f : FuncId} {xs : List AV} {inw : List Own} {ok : α → Prop} {O : α → List Own} {V : α → AV} {ok' : β → Prop} {O' : β → List Own} {V' : β → AV} (g : α → β) (S rest : α → List Own) (hs : GSpec P f xs inw ok O V)
    (hok : ∀ a, ok a → ok' (g a)) (hV : ∀ a, ok a → LendTo (S a) (V a) (V' (g a))) (hp : ∀ a, ok a → (O a).Perm (S a ++ rest a)) (hG : ∀ a, ok a → ∀ b, blksOf inw b → b ∈ (rest a).filterMap Own.blk) (hl : ∀ a, ok a → OwnsC (S a) (rest a) (O' (g a))) : GSpec P f xs inw ok' O' V' := fun R w vs hr hd ho hn =>
  (hs R w vs hr hd ho hn).mono fun e w' ⟨a, v, R', h0, h1, h2, h3⟩ => by
    have hc := Z4 h3 (hp a h0)
    exact ⟨g a, v, lend (S a) w' R', hok a h0, h1, hV a h0 _ _ _ R' w' v (W9 hc) h2, AO6 hc (hG a h0) (hl a h0)⟩
theorem oc_refl {sel : List Own} (q : Own) : OwnC sel q q := by
  cases q with
  | box b t cs => exact ⟨rfl, rfl, AE0⟩
  | arr v t sz es => exact ⟨rfl, rfl, rfl, I7⟩
  | frz b t cs => exact ⟨rfl, rfl, AE0⟩
  | tab T => exact rfl
theorem oc_set {sel l : List Own} {i : Nat} {q q' : Own} (hi : l[i]? = some q) (hc : OwnC sel q q') : OwnsC sel l (l.set i q') := ⟨by simp, fun j x y hx hy => by
  by_cases h : i = j
  · subst h
    rw [List.getElem?_set_self (List.getElem?_eq_some_iff.1 hi).1] at hy
    rw [hi] at hx
    injection hx with hx; injection hy with hy; subst hx; subst hy; exact hc
  · rw [List.getElem?_set_ne h, hx] at hy
    injection hy with hy; subst hy; exact oc_refl _⟩
theorem le_sealT {env : List (Nat × AV)} {q : Own} (k i : Nat) (q' : Own) (hi : (own.take k)[i]? = some q) (hc : OwnC (own.drop k) q q') (hG : ∀ b, G b → b ∈ (own.take k).filterMap Own.blk) : Le G n ⟨own, env⟩ ⟨(own.take k).set i q', env⟩ := fun w0 R0 R a w ⟨h1, h2, h3⟩ => by
  have h9 := List.perm_append_comm (l₁ := own.drop k) (l₂ := own.take k)
  rw [List.take_append_drop] at h9
  have hp : Core G w0 R0 (own.drop k ++ own.take k) R w := Z4 h1 h9.symm
  exact ⟨lend (own.drop k) w R, f9 (W9 hp), AO6 hp hG (oc_set hi hc), fun t z hz => z.mono (f9 (W9 hp)) (h2 t z hz), h3⟩
theorem i0 {env : List (Nat × AV)} {sel rest : List Own} {q : Own} (is : List Nat) (i : Nat) (q' : Own) (hp : pick own is = (sel, rest)) (hi : rest[i]? = some q) (hc : OwnC sel q q') (hG : ∀ b, G b → b ∈ rest.filterMap Own.blk) : Le G n ⟨own, env⟩ ⟨rest.set i q', env⟩ := fun w0 R0 R a w ⟨h1, h2, h3⟩ => by
  have hk := m9 h1 hp
  exact ⟨lend sel w R, f9 (W9 hk), AO6 hk hG (oc_set hi hc), fun t z hz => z.mono (f9 (W9 hk)) (h2 t z hz), h3⟩
section
variable {T X : Type} {ocs : T → X → List AV} {cs : T → List AV} {ow : T → X → List Own}
end
end
end Go.AV

namespace Go.AV
section
variable {P : Program} {G : Nat → Prop} {n : Nat} {own : List Own} {o : Oper} {E : EnvF}
@[reducible] def byteC (b : UInt8) : List AV := [AV.ik .u8 b.toNat]
end
end Go.AV

namespace Go.Proofs.YtoaoicnnimjbeaaGreat
open Go Go.AV Go.M
attribute [local irreducible] OpW OpA OpS AWP FSpec ESpec RetOk RvDen Le Ev GuardIs
end Go.Proofs.YtoaoicnnimjbeaaGreat

namespace Go.M
open Go.AV
end Go.M
namespace Go.Proofs.YtoaoicnnimjbeaaGreat
open Go Go.AV Go.M
attribute [local irreducible] OpW OpA OpS AWP FSpec ESpec GSpec OpE RetOk RetOkG RvDen Le Ev GuardIs SrcIs Int.tmod Int.tdiv IntKind.wrap
end Go.Proofs.YtoaoicnnimjbeaaGreat

namespace Go.M
open Go.AV
end Go.M
namespace Go.Proofs.YtoaoicnnimjbeaaGreat
open Go Go.AV Go.M
attribute [local irreducible] OpW OpA OpS AWP FSpec ESpec GSpec OpE RetOk RetOkG RvDen Le Ev GuardIs SrcIs Int.tmod Int.tdiv IntKind.wrap
end Go.Proofs.YtoaoicnnimjbeaaGreat

namespace Go.M
open Go.AV
end Go.M
namespace Go.Proofs.YtoaoicnnimjbeaaGreat
open Go Go.AV Go.M
attribute [local irreducible] OpW OpA OpS AWP FSpec ESpec GSpec OpE RetOk RetOkG RvDen Le Ev GuardIs SrcIs Int.tmod Int.tdiv IntKind.wrap
end Go.Proofs.YtoaoicnnimjbeaaGreat

set_option maxHeartbeats 1000000
namespace Go.M
open Go.AV
end Go.M
namespace Go.Proofs.YtoaoicnnimjbeaaGreat
open Go Go.AV Go.M
attribute [local irreducible] OpW OpA OpS AWP FSpec ESpec GSpec OpE RetOk RetOkG RvDen Le Ev GuardIs SrcIs
end Go.Proofs.YtoaoicnnimjbeaaGreat

namespace Go.M
open Go.AV
structure TCur where
  p : Nat
  seed : Int
def bytesI (l : List Int) : AV := AV.list 1 (l.map fun x => [AV.ik .u8 x])
def curC (code : List Int) (c : TCur) : List AV := [bytesI code, AV.int c.p, AV.ik .u64 c.seed]
def ByteL (code : List Int) : Prop := ∀ x ∈ code, 0 ≤ x ∧ x ≤ 255
theorem Au3 {l : List Int} (h : ∀ x ∈ l, (Lit.int .u8 x).wf = true) : ByteL l := fun x hx => by
  have := h x hx
  simp only [Lit.wf, IntKind.min, IntKind.max, IntKind.signed, IntKind.bits] at this
  simp at this
  omega
theorem AO7 {x : Int} (h : 0 ≤ x ∧ x ≤ 255) : IntKind.i64.wrap x = x := in64 (by omega)
theorem n1 (x : Int) : 0 ≤ bandI x 255 ∧ bandI x 255 ≤ 255 := by
  unfold bandI
  have h1 : (BitVec.ofInt IntKind.u64.bits x &&& BitVec.ofInt IntKind.u64.bits 255).toNat ≤ 255 := by
    rw [BitVec.toNat_and]
    exact Nat.le_trans Nat.and_le_right (by decide)
  generalize (BitVec.ofInt IntKind.u64.bits x &&& BitVec.ofInt IntKind.u64.bits 255).toNat = n at h1
  unfold IntKind.wrap
  simp [IntKind.bits, IntKind.signed]
  omega
def bigB (code more : List Int) : Bool := decide ((1048576 : Int) < code.length) || decide ((1048576 : Int) - code.length < more.length)
end Go.M

namespace Go.Proofs.YtoaoicnnimjbeaaGreat
open Go Go.AV Go.M
attribute [local irreducible] OpW OpA OpS AWP FSpec ESpec GSpec OpE RetOk RetOkG RvDen Le Ev GuardIs SrcIs Int.tmod IntKind.wrap bandI
theorem AY6 (b : Nat) (code : List Int) (hcode : ByteL code) (c : TCur) (hp : c.p ≤ 8000000) : GSpec Tryz.prog 68 [AV.ptr b 0] [.box b 64 (curC code c)] (fun x : TCur × Int => x.1.p ≤ c.p + 1 ∧ 0 ≤ x.2 ∧ x.2 ≤ 255) (fun x => [.box b 64 (curC code x.1)]) (fun x => AV.int x.2) := by
 have hcb := hcode
 refine H3 Tryz.func68 rfl Tryz.ntmps68 rfl ?_
 refine A3 (A2 ?_)
 refine A1 rfl (B6 rfl B4) ?_
 refine A4 (A3 (A2 ?_))
 try rw [AO7 hzb]
 refine A1 rfl (B6 rfl B4) ?_
 refine A4 (A3 (A3 ?_))
 refine L1 (by kernel_rfl) (by kernel_rfl) rfl ?_
 refine B2 rfl rfl (B8 rfl (A0 rfl)) ?_
 refine B2 rfl rfl (d4 rfl (A0 rfl)) ?_
 refine B2 rfl rfl (B1 1 rfl P1 rfl B5 (A0 rfl) rfl) ?_
 refine B2 rfl rfl (B0 0 rfl (A0 rfl) rfl C6 rfl) ?_
 refine B2 rfl rfl (B8 rfl (A0 rfl)) ?_
 refine B2 rfl rfl (d4 rfl (A0 rfl)) ?_
 refine B2 rfl rfl (B1 0 rfl P1 rfl Tryz.sizeOf22 (A0 rfl) rfl) ?_
 refine B2 rfl rfl (B0 0 rfl (A0 rfl) rfl Tryz.isAgg22 rfl) ?_
 refine B2 rfl rfl (F6 rfl W8 (A0 rfl)) ?_
 refine B2 rfl rfl (J8 rfl (A0 rfl) (A0 rfl)) ?_
 refine P7 ?_
 refine B9 (A0 rfl) ?_ ?_
 ·intro h13
  have k13 := of_decide_eq_true h13; try simp only [A8] at k13
  obtain ⟨z, hz⟩ := get_some (show c.p < code.length by omega)
  have hzb := hcb z (F9 hz)
  refine L1 (by kernel_rfl) (by kernel_rfl) rfl ?_
  refine B2 rfl rfl (B8 rfl (A0 rfl)) ?_
  refine B2 rfl rfl (d4 rfl (A0 rfl)) ?_
  refine B2 rfl rfl (B1 0 rfl P1 rfl Tryz.sizeOf22 (A0 rfl) rfl) ?_
  refine B2 rfl rfl (B0 0 rfl (A0 rfl) rfl Tryz.isAgg22 rfl) ?_
  refine B2 rfl rfl (B8 rfl (A0 rfl)) ?_
  refine B2 rfl rfl (d4 rfl (A0 rfl)) ?_
  refine B2 rfl rfl (B1 1 rfl P1 rfl B5 (A0 rfl) rfl) ?_
  refine B2 rfl rfl (B0 0 rfl (A0 rfl) rfl C6 rfl) ?_
  refine B2 rfl rfl (I2 rfl W8 Tryz.sizeOf5 (A0 rfl) (A0 rfl) hz rfl) ?_
  refine B2 rfl rfl (L6 rfl (A0 rfl) Tryz.isAgg5 rfl) ?_
  refine B2 rfl rfl (o4 rfl (by kernel_rfl) W6 (A0 rfl)) ?_
  try rw [AO7 hzb]
  refine B2 rfl rfl (B6 rfl (A0 rfl)) ?_
  refine P7 ?_
  refine A3 (A2 ?_)
  refine A5 rfl ?_
  refine A1 rfl (d4 rfl (A0 rfl)) ?_
  refine A1 rfl (B1 1 rfl P1 rfl B5 (A0 rfl) rfl) ?_
  refine A1 rfl (B0 0 rfl (A0 rfl) rfl C6 rfl) ?_
  refine A1 rfl (G0 rfl (A0 rfl) B4 (by first | omega | (simp only [C8, A7, szR] at *; omega))) ?_
  refine A1 rfl (d4 rfl (A0 rfl)) ?_
  refine A1 rfl (B1 1 rfl P1 rfl B5 (A0 rfl) rfl) ?_
  refine K8 0 rfl rfl rfl (A0 rfl) (A0 rfl) (L8 _ _) rfl B5 rfl ?_
  refine A4 (A3 (A2 ?_))
  refine A5 rfl ?_
  refine A5 rfl ?_
  refine A1 rfl (d4 rfl (A0 rfl)) ?_
  refine A1 rfl (B1 2 rfl P1 rfl a7 (A0 rfl) rfl) ?_
  refine A1 rfl (B0 0 rfl (A0 rfl) rfl Tryz.isAgg62 rfl) ?_
  refine A1 rfl (w_mul rfl (A0 rfl) B4) ?_
  refine A5 rfl ?_
  refine A1 rfl (o4 rfl (by kernel_rfl) Tryz.underlying62 (A0 rfl)) ?_
  refine A1 rfl (Ac7 rfl (A0 rfl) (A0 rfl)) ?_
  refine A1 rfl (Ac7 rfl (A0 rfl) B4) ?_
  refine A1 rfl (d4 rfl (A0 rfl)) ?_
  refine A1 rfl (B1 2 rfl P1 rfl a7 (A0 rfl) rfl) ?_
  refine K8 0 rfl rfl rfl (A0 rfl) (A0 rfl) (L8 _ _) rfl a7 rfl ?_
  refine A4 (A3 (A3 ?_))
  refine L1 (by kernel_rfl) (by kernel_rfl) rfl ?_
  refine B2 rfl rfl (B8 rfl (A0 rfl)) ?_
  refine B2 rfl rfl (d4 rfl (A0 rfl)) ?_
  refine B2 rfl rfl (B1 1 rfl P1 rfl B5 (A0 rfl) rfl) ?_
  refine B2 rfl rfl (B0 0 rfl (A0 rfl) rfl C6 rfl) ?_
  refine B2 rfl rfl (B8 rfl (A0 rfl)) ?_
  refine B2 rfl rfl (d4 rfl (A0 rfl)) ?_
  refine B2 rfl rfl (B1 0 rfl P1 rfl Tryz.sizeOf22 (A0 rfl) rfl) ?_
  refine B2 rfl rfl (B0 0 rfl (A0 rfl) rfl Tryz.isAgg22 rfl) ?_
  refine B2 rfl rfl (F6 rfl W8 (A0 rfl)) ?_
  refine B2 rfl rfl (X2 rfl (A0 rfl) (A0 rfl)) ?_
  refine P7 ?_
  refine B9 (A0 rfl) ?_ ?_
  ·intro h53
   have k53 := of_decide_eq_true h53; try simp only [A8] at k53
   refine A3 (A2 ?_)
   refine A5 rfl ?_
   refine B3 rfl ?_
   refine A4 ?_
   refine C2 ?_
   (refine L5 [0] ((⟨c.p + 1, _⟩, _)) ?_ rfl (by first | (dsimp only; rfl) | rfl) (P0 rfl (C1 rfl (by first | rfl | (refine congrArg AV.bool ?_; simp_all; done)))); first | exact ⟨Nat.le_refl _, hzb⟩ | exact ⟨Nat.le_refl _, Int.le_refl 0, (show (0 : Int) ≤ 255 by decide)⟩ | (rw [AO7 (n1 _)]; exact ⟨Nat.le_refl _, n1 _⟩))
  intro h53
  have k53 := of_decide_eq_false h53; try simp only [A8] at k53
  refine C3 (A3 (A2 ?_))
  refine A5 rfl ?_
  refine A1 rfl (d4 rfl (A0 rfl)) ?_
  refine A1 rfl (B1 2 rfl P1 rfl a7 (A0 rfl) rfl) ?_
  refine A1 rfl (B0 0 rfl (A0 rfl) rfl Tryz.isAgg62 rfl) ?_
  refine A1 rfl (Ac8 rfl (A0 rfl) B4 (by decide) (by decide)) ?_
  refine A1 rfl (w_band rfl (A0 rfl) B4) ?_
  refine A1 rfl (o4 rfl (by kernel_rfl) W6 (A0 rfl)) ?_
  refine B3 rfl ?_
  refine A4 ?_
  refine C2 ?_
  (refine L5 [0] ((⟨c.p + 1, _⟩, _)) ?_ rfl (by first | (dsimp only; rfl) | rfl) (P0 rfl (C1 rfl (by first | rfl | (refine congrArg AV.bool ?_; simp_all; done)))); first | exact ⟨Nat.le_refl _, hzb⟩ | exact ⟨Nat.le_refl _, Int.le_refl 0, (show (0 : Int) ≤ 255 by decide)⟩ | (rw [AO7 (n1 _)]; exact ⟨Nat.le_refl _, n1 _⟩))
 intro h13
 have k13 := of_decide_eq_false h13; try simp only [A8] at k13
 refine C3 (A3 (A2 ?_))
 refine A5 rfl ?_
 refine A1 rfl (d4 rfl (A0 rfl)) ?_
 refine A1 rfl (B1 1 rfl P1 rfl B5 (A0 rfl) rfl) ?_
 refine A1 rfl (B0 0 rfl (A0 rfl) rfl C6 rfl) ?_
 refine A1 rfl (G0 rfl (A0 rfl) B4 (by first | omega | (simp only [C8, A7, szR] at *; omega))) ?_
 refine A1 rfl (d4 rfl (A0 rfl)) ?_
 refine A1 rfl (B1 1 rfl P1 rfl B5 (A0 rfl) rfl) ?_
 refine K8 0 rfl rfl rfl (A0 rfl) (A0 rfl) (L8 _ _) rfl B5 rfl ?_
 refine A4 (A3 (A2 ?_))
 refine A5 rfl ?_
 refine A5 rfl ?_
 refine A1 rfl (d4 rfl (A0 rfl)) ?_
 refine A1 rfl (B1 2 rfl P1 rfl a7 (A0 rfl) rfl) ?_
 refine A1 rfl (B0 0 rfl (A0 rfl) rfl Tryz.isAgg62 rfl) ?_
 refine A1 rfl (w_mul rfl (A0 rfl) B4) ?_
 refine A5 rfl ?_
 refine A1 rfl (o4 rfl (by kernel_rfl) Tryz.underlying62 (A0 rfl)) ?_
 refine A1 rfl (Ac7 rfl (A0 rfl) (A0 rfl)) ?_
 refine A1 rfl (Ac7 rfl (A0 rfl) B4) ?_
 refine A1 rfl (d4 rfl (A0 rfl)) ?_
 refine A1 rfl (B1 2 rfl P1 rfl a7 (A0 rfl) rfl) ?_
 refine K8 0 rfl rfl rfl (A0 rfl) (A0 rfl) (L8 _ _) rfl a7 rfl ?_
 refine A4 (A3 (A3 ?_))
 refine L1 (by kernel_rfl) (by kernel_rfl) rfl ?_
 refine B2 rfl rfl (B8 rfl (A0 rfl)) ?_
 refine B2 rfl rfl (d4 rfl (A0 rfl)) ?_
 refine B2 rfl rfl (B1 1 rfl P1 rfl B5 (A0 rfl) rfl) ?_
 refine B2 rfl rfl (B0 0 rfl (A0 rfl) rfl C6 rfl) ?_
 refine B2 rfl rfl (B8 rfl (A0 rfl)) ?_
 refine B2 rfl rfl (d4 rfl (A0 rfl)) ?_
 refine B2 rfl rfl (B1 0 rfl P1 rfl Tryz.sizeOf22 (A0 rfl) rfl) ?_
 refine B2 rfl rfl (B0 0 rfl (A0 rfl) rfl Tryz.isAgg22 rfl) ?_
 refine B2 rfl rfl (F6 rfl W8 (A0 rfl)) ?_
 refine B2 rfl rfl (X2 rfl (A0 rfl) (A0 rfl)) ?_
 refine P7 ?_
 refine B9 (A0 rfl) ?_ ?_
 ·intro h53
  have k53 := of_decide_eq_true h53; try simp only [A8] at k53
  refine A3 (A2 ?_)
  refine A5 rfl ?_
  refine B3 rfl ?_
  refine A4 ?_
  refine C2 ?_
  (refine L5 [0] ((⟨c.p + 1, _⟩, _)) ?_ rfl (by first | (dsimp only; rfl) | rfl) (P0 rfl (C1 rfl (by first | rfl | (refine congrArg AV.bool ?_; simp_all; done)))); first | exact ⟨Nat.le_refl _, hzb⟩ | exact ⟨Nat.le_refl _, Int.le_refl 0, (show (0 : Int) ≤ 255 by decide)⟩ | (rw [AO7 (n1 _)]; exact ⟨Nat.le_refl _, n1 _⟩))
 intro h53
 have k53 := of_decide_eq_false h53; try simp only [A8] at k53
 refine C3 (A3 (A2 ?_))
 refine A5 rfl ?_
 refine A1 rfl (d4 rfl (A0 rfl)) ?_
 refine A1 rfl (B1 2 rfl P1 rfl a7 (A0 rfl) rfl) ?_
 refine A1 rfl (B0 0 rfl (A0 rfl) rfl Tryz.isAgg62 rfl) ?_
 refine A1 rfl (Ac8 rfl (A0 rfl) B4 (by decide) (by decide)) ?_
 refine A1 rfl (w_band rfl (A0 rfl) B4) ?_
 refine A1 rfl (o4 rfl (by kernel_rfl) W6 (A0 rfl)) ?_
 refine B3 rfl ?_
 refine A4 ?_
 refine C2 ?_
 (refine L5 [0] ((⟨c.p + 1, _⟩, _)) ?_ rfl (by first | (dsimp only; rfl) | rfl) (P0 rfl (C1 rfl (by first | rfl | (refine congrArg AV.bool ?_; simp_all; done)))); first | exact ⟨Nat.le_refl _, hzb⟩ | exact ⟨Nat.le_refl _, Int.le_refl 0, (show (0 : Int) ≤ 255 by decide)⟩ | (rw [AO7 (n1 _)]; exact ⟨Nat.le_refl _, n1 _⟩))
theorem R4 (b : Nat) (code : List Int) (hcode : ByteL code) (c : TCur) (n : Int) (hn : n ≤ 1000000) (hp : c.p ≤ 7000000) : GSpec Tryz.prog 34 [AV.ptr b 0, AV.int n] [.box b 64 (curC code c)] (fun x : TCur × Int => x.1.p ≤ c.p + 2 ∧ 0 ≤ x.2 ∧ (x.2 < n ∨ x.2 = 0)) (fun x => [.box b 64 (curC code x.1)]) (fun x => AV.int x.2) := by
 refine H3 Tryz.func34 rfl Tryz.ntmps34 rfl ?_
 refine A3 (A2 ?_)
 refine A1 rfl (B6 rfl B4) ?_
 refine A4 (A3 (A3 (A2 ?_)))
 refine A5 rfl ?_
 refine A1 rfl (X2 rfl (A0 rfl) B4) ?_
 refine A4 ?_
 refine B9 (A0 rfl) ?_ ?_
 ·intro h7
  have k7 := of_decide_eq_true h7; try simp only [A8] at k7
  refine A3 (A2 ?_)
  refine A1 rfl (B6 rfl B4) ?_
  refine A4 ?_
  refine C2 ?_
  (refine L5 [0] ((_, _)) ?_ rfl (by first | (dsimp only; rfl) | rfl) (P0 rfl (C1 rfl (by first | rfl | (refine congrArg AV.bool ?_; simp_all; done)))); (dsimp only; first | omega | exact ⟨by omega, Int.tmod_nonneg _ (by omega), .inl (Int.tmod_lt_of_pos _ (by omega))⟩))
 intro h7
 have k7 := of_decide_eq_false h7; try simp only [A8] at k7
 refine C3 (A3 (A2 ?_))
 refine A5 rfl ?_
 refine H9 [0] rfl rfl rfl rfl Tryz.call68 rfl (AY6 _ _ hcode _ (by omega)) (A6 (A0 rfl) C0) rfl ?_
 intro x9 ok9
 refine B3 rfl ?_
 refine A4 (A3 (A3 (A2 ?_)))
 refine A5 rfl ?_
 refine A1 rfl (R8 rfl (A0 rfl) B4) ?_
 refine A4 ?_
 refine B9 (A0 rfl) ?_ ?_
 ·intro h11
  have k11 := of_decide_eq_true h11; try simp only [A8] at k11
  refine A2 ?_
  refine A5 rfl ?_
  refine A1 rfl (w_muli rfl (A0 rfl) B4 (by first | omega | (simp only [C8, A7, szR] at *; omega))) ?_
  refine A5 rfl ?_
  refine H9 [0] rfl rfl rfl rfl Tryz.call68 rfl (AY6 _ _ hcode _ (by omega)) (A6 (A0 rfl) C0) rfl ?_
  intro x15 ok15
  refine A1 rfl (G0 rfl (A0 rfl) (A0 rfl) (by first | omega | (simp only [C8, A7, szR] at *; omega))) ?_
  refine B3 rfl ?_
  refine A4 (A3 (A2 ?_))
  refine A5 rfl ?_
  refine A5 rfl ?_
  refine A1 rfl (w_rem rfl (A0 rfl) (A0 rfl) (by omega)) ?_
  refine B3 rfl ?_
  refine A4 ?_
  refine C2 ?_
  (refine L5 [0] ((_, _)) ?_ rfl (by first | (dsimp only; rfl) | rfl) (P0 rfl (C1 rfl (by first | rfl | (refine congrArg AV.bool ?_; simp_all; done)))); (dsimp only; first | omega | exact ⟨by omega, Int.tmod_nonneg _ (by omega), .inl (Int.tmod_lt_of_pos _ (by omega))⟩))
 intro h11
 have k11 := of_decide_eq_false h11; try simp only [A8] at k11
 refine C3 (A3 (A2 ?_))
 refine A5 rfl ?_
 refine A5 rfl ?_
 refine A1 rfl (w_rem rfl (A0 rfl) (A0 rfl) (by omega)) ?_
 refine B3 rfl ?_
 refine A4 ?_
 refine C2 ?_
 (refine L5 [0] ((_, _)) ?_ rfl (by first | (dsimp only; rfl) | rfl) (P0 rfl (C1 rfl (by first | rfl | (refine congrArg AV.bool ?_; simp_all; done)))); (dsimp only; first | omega | exact ⟨by omega, Int.tmod_nonneg _ (by omega), .inl (Int.tmod_lt_of_pos _ (by omega))⟩))
theorem n6 (b : Nat) (code : List Int) (hcode : ByteL code) (c : TCur) (n : Int) (hn : n ≤ 1000000) (hp : c.p ≤ 7000000) : GSpec Tryz.prog 49 [AV.ptr b 0, AV.int n] [.box b 64 (curC code c)] (fun x : TCur × Bool => x.1.p ≤ c.p + 2) (fun x => [.box b 64 (curC code x.1)]) (fun x => AV.bool x.2) := by
 refine H3 Tryz.func49 rfl Tryz.ntmps49 rfl ?_
 refine A3 (A2 ?_)
 refine A1 rfl (B6 rfl E9) ?_
 refine A4 (A3 (A2 ?_))
 refine A5 rfl ?_
 refine A5 rfl ?_
 refine H9 [0] rfl rfl rfl rfl Tryz.call34 rfl (R4 _ _ hcode _ _ (by omega) (by omega)) (A6 (A0 rfl) (A6 (A0 rfl) C0)) rfl ?_
 intro x7 ok7
 refine A1 rfl (O1 rfl (A0 rfl) B4) ?_
 refine B3 rfl ?_
 refine A4 ?_
 refine C2 ?_
 (refine L5 [0] ((_, _)) ?_ rfl (by first | (dsimp only; rfl) | rfl) (P0 rfl (C1 rfl (by rfl))); exact ok7.1)
theorem AT8 (b : Nat) (code : List Int) (hcode : ByteL code) (c : TCur) (l : List Str) (hl : (∀ s ∈ l, s.length ≤ 64) ∧ 1 ≤ l.length ∧ l.length ≤ 1000) (hp : c.p ≤ 7000000) : GSpec Tryz.prog 26 [AV.ptr b 0, strs l] [.box b 64 (curC code c)] (fun x : TCur × Str => x.1.p ≤ c.p + 2 ∧ x.2.length ≤ 64) (fun x => [.box b 64 (curC code x.1)]) (fun x => AV.str x.2) := by
 obtain ⟨hls, hl1, hl2⟩ := hl
 refine H3 Tryz.func26 rfl Tryz.ntmps26 rfl ?_
 refine A3 (A2 ?_)
 refine A1 rfl (B6 rfl (N0 (l := []) rfl)) ?_
 refine A4 (A3 (A2 ?_))
 refine A5 rfl ?_
 refine A5 rfl ?_
 refine A5 rfl ?_
 refine A1 rfl (F6 rfl C9 (A0 rfl)) ?_
 refine H9 [0] rfl rfl rfl rfl Tryz.call34 rfl (R4 _ _ hcode _ _ (by simp only [A8]; omega) (by omega)) (A6 (A0 rfl) (A6 (A0 rfl) C0)) rfl ?_
 intro x9 ok9
 simp only [A8] at ok9
 obtain ⟨y, hy⟩ := get_some (show x9.2.toNat < l.length by omega)
 refine A1 rfl (I2 rfl C9 E3 (A0 rfl) (A0 rfl) hy (by omega)) ?_
 refine A1 rfl (L6 rfl (A0 rfl) G3 rfl) ?_
 refine B3 rfl ?_
 refine A4 ?_
 refine C2 ?_
 (refine L5 [0] ((_, _)) ?_ rfl (by first | (dsimp only; rfl) | rfl) (P0 rfl (C1 rfl (by rfl))); exact ⟨ok9.1, hls _ (F9 hy)⟩)
theorem AF3 (b : Nat) (code : List Int) (hcode : ByteL code) (c : TCur) (l : List Int) (hl : 1 ≤ l.length ∧ l.length ≤ 1000) (hp : c.p ≤ 7000000) : GSpec Tryz.prog 111 [AV.ptr b 0, ints l] [.box b 64 (curC code c)] (fun x : TCur × Int => x.1.p ≤ c.p + 2 ∧ x.2 ∈ l) (fun x => [.box b 64 (curC code x.1)]) (fun x => AV.int x.2) := by
 obtain ⟨hl1, hl2⟩ := hl
 refine H3 Tryz.func111 rfl Tryz.ntmps111 rfl ?_
 refine A3 (A2 ?_)
 refine A1 rfl (B6 rfl B4) ?_
 refine A4 (A3 (A2 ?_))
 refine A5 rfl ?_
 refine A5 rfl ?_
 refine A5 rfl ?_
 refine A1 rfl (F6 rfl I4 (A0 rfl)) ?_
 refine H9 [0] rfl rfl rfl rfl Tryz.call34 rfl (R4 _ _ hcode _ _ (by simp only [A8]; omega) (by omega)) (A6 (A0 rfl) (A6 (A0 rfl) C0)) rfl ?_
 intro x9 ok9
 simp only [A8] at ok9
 obtain ⟨y, hy⟩ := get_some (show x9.2.toNat < l.length by omega)
 refine A1 rfl (I2 rfl I4 B5 (A0 rfl) (A0 rfl) hy (by omega)) ?_
 refine A1 rfl (L6 rfl (A0 rfl) C6 rfl) ?_
 refine B3 rfl ?_
 refine A4 ?_
 refine C2 ?_
 (refine L5 [0] ((_, _)) ?_ rfl (by first | (dsimp only; rfl) | rfl) (P0 rfl (C1 rfl (by rfl))); exact ⟨ok9.1, F9 hy⟩)
theorem BH1 (b : Nat) (code : List Int) (hcode : ByteL code) (c : TCur) (hp : c.p ≤ 6000000) : GSpec Tryz.prog 67 [AV.ptr b 0] [.box b 64 (curC code c)] (fun x : TCur × Str => x.1.p ≤ c.p + 2 ∧ x.2.length ≤ 64) (fun x => [.box b 64 (curC code x.1)]) (fun x => AV.str x.2) := by
 refine H3 Tryz.func67 rfl Tryz.ntmps67 rfl ?_
 refine A3 (A2 ?_)
 refine A1 rfl (B6 rfl (N0 (l := []) rfl)) ?_
 refine A4 (A3 (A2 ?_))
 refine A5 rfl ?_
 refine A1 rfl (K9 rfl C9 E3 Tryz.zeroValue9 rfl rfl rfl rfl (D0 (N0 (l := [97]) rfl) (L7 _) (D0 (N0 (l := [98]) rfl) (L7 _) (D0 (N0 (l := [99]) rfl) (L7 _) (D0 (N0 (l := [109]) rfl) (L7 _) (D0 (N0 (l := [110]) rfl) (L7 _) (D0 (N0 (l := [122]) rfl) (L7 _) (D0 (N0 (l := [114, 47, 49]) rfl) (L7 _) (D0 (N0 (l := [105, 47, 120, 47, 49]) rfl) (L7 _) G9)))))))) rfl rfl) ?_
 refine H9 [0] rfl rfl rfl rfl Tryz.call26 rfl (AT8 _ _ hcode _ ([[97], [98], [99], [109], [110], [122], [114, 47, 49], [105, 47, 120, 47, 49]] : List Str) (by decide) (by omega)) (A6 (A0 rfl) (A6 (A0 rfl) C0)) rfl ?_
 intro x5 ok5
 refine B3 rfl ?_
 refine A4 ?_
 refine C2 ?_
 (refine L5 [0] ((_, _)) ?_ rfl (by first | (dsimp only; rfl) | rfl) (P0 rfl (C1 rfl (by rfl))); exact ok5)
end Go.Proofs.YtoaoicnnimjbeaaGreat

namespace Go.Proofs.YtoaoicnnimjbeaaGreat
open Go Go.AV Go.M
attribute [local irreducible] OpW OpA OpS AWP FSpec ESpec GSpec OpE RetOk RetOkG RvDen Le Ev GuardIs SrcIs
theorem big_spec (code more : List Int) : FSpec Tryz.prog 4 [bytesI code, bytesI more] (AV.bool (bigB code more)) := by
 refine E2 Tryz.func4 rfl Tryz.ntmps4 rfl ?_
 refine U5 (t := 0) rfl fun hl0 => ?_
 try simp only [A8] at hl0
 refine U5 (t := 1) rfl fun hl1 => ?_
 try simp only [A8] at hl1
 refine A3 (A2 ?_)
 refine A1 rfl (B6 rfl E9) ?_
 refine A4 (A3 (A2 ?_))
 refine A5 rfl ?_
 refine A1 rfl (F6 rfl W8 (A0 rfl)) ?_
 refine A1 rfl (R8 rfl (A0 rfl) B4) ?_
 refine A5 rfl ?_
 refine F3 rfl (fun hc => B8 rfl (A0 rfl)) ?_
 refine F3 rfl (fun hc => F6 rfl W8 (A9 rfl hc)) ?_
 refine F3 rfl (fun hc => B8 rfl (A0 rfl)) ?_
 refine F3 rfl (fun hc => F6 rfl W8 (A9 rfl hc)) ?_
 refine F3 rfl (fun hc => R7 rfl B4 (A9 rfl hc) (by simp only [A8]; omega)) ?_
 refine F3 rfl (fun hc => R8 rfl (A9 rfl hc) (A9 rfl hc)) ?_
 refine A1 rfl (Q8 rfl (A0 rfl) (F7 rfl)) ?_
 refine B3 rfl ?_
 refine A4 ?_
 refine C2 ?_
 exact I3 rfl (C1 rfl (by (refine congrArg AV.bool ?_; unfold bigB; simp only [A8])))
end Go.Proofs.YtoaoicnnimjbeaaGreat

namespace Go.Proofs.YtoaoicnnimjbeaaGreat
open Go Go.AV Go.M
attribute [local irreducible] OpW OpA OpS AWP FSpec ESpec GSpec OpE RetOk RetOkG RvDen Le Ev GuardIs SrcIs Int.tmod Int.tdiv IntKind.wrap bandI
theorem AL1 (a b : List Str) : FSpec Tryz.prog 54 [strs a, strs b] (AV.bool (decide (a = b))) := by
 refine E2 Tryz.func54 rfl Tryz.ntmps54 rfl ?_
 refine U5 (t := 0) rfl fun hl => ?_
 try simp only [A8] at hl
 refine A3 (A2 ?_)
 refine A1 rfl (B6 rfl E9) ?_
 refine A4 (A3 (A3 (A2 ?_)))
 refine A5 rfl ?_
 refine A1 rfl (F6 rfl C9 (A0 rfl)) ?_
 refine A5 rfl ?_
 refine A1 rfl (F6 rfl C9 (A0 rfl)) ?_
 refine A1 rfl (Z7 rfl (A0 rfl) (A0 rfl)) ?_
 refine A4 ?_
 refine B9 (A0 rfl) ?_ ?_
 ·intro h10
  have k10 := l0 h10; try simp only [A8] at k10
  have hab : a ≠ b := by intro hc; subst hc; exact k10 rfl
  refine A3 (A2 ?_)
  refine A1 rfl (B6 rfl E9) ?_
  refine A4 ?_
  refine C2 ?_
  exact I3 rfl (C1 rfl (by exact congrArg AV.bool (by simp [hab])))
 intro h10
 have k10 := X7 h10; try simp only [A8] at k10
 have heq : a.length = b.length := by omega
 refine C3 (A3 (A3 (A2 ?_)))
 refine A5 rfl ?_
 refine A1 rfl (F6 rfl C9 (A0 rfl)) ?_
 refine A1 rfl (B8 rfl B4) ?_
 refine A4 (C7 ?_)
 refine J0 [(0, _), (1, _), (12, _)] _ (fun (i : Nat) => i ≤ a.length ∧ a.take i = b.take i) (fun (i : Nat) => []) (fun (i : Nat) => [(13, AV.int i)]) (fun (i : Nat) => a.length - i) (0) ?_ (K2 ⟨rfl, rfl, rfl, rfl, trivial⟩) ?_
 ·exact ⟨Nat.zero_le _, rfl⟩
 intro i hinv
 refine A3 (A2 ?_)
 refine A1 rfl (J8 rfl (A0 rfl) (A0 rfl)) ?_
 refine A4 (A3 ?_)
 refine B9 (A0 rfl) ?_ ?_
 ·intro h14
  have k14 := of_decide_eq_true h14; try simp only [A8] at k14
  have hlt : i < a.length := by omega
  obtain ⟨x, hx⟩ := get_some hlt
  obtain ⟨y, hy⟩ := get_some (show i < b.length by omega)
  refine C3 (A3 (C7 (A3 (A2 ?_))))
  refine A5 rfl ?_
  refine B3 rfl ?_
  refine A4 (A3 ?_)
  refine L1 (by kernel_rfl) (by kernel_rfl) rfl ?_
  refine B2 rfl rfl (B8 rfl (A0 rfl)) ?_
  refine B2 rfl rfl (B8 rfl (A0 rfl)) ?_
  refine B2 rfl rfl (I2 rfl C9 E3 (A0 rfl) (A0 rfl) hx (by first | omega | (simp only [C8, A7, szR] at *; omega))) ?_
  refine B2 rfl rfl (L6 rfl (A0 rfl) G3 rfl) ?_
  refine B2 rfl rfl (B8 rfl (A0 rfl)) ?_
  refine B2 rfl rfl (B8 rfl (A0 rfl)) ?_
  refine B2 rfl rfl (I2 rfl C9 E3 (A0 rfl) (A0 rfl) hy (by first | omega | (simp only [C8, A7, szR] at *; omega))) ?_
  refine B2 rfl rfl (L6 rfl (A0 rfl) G3 rfl) ?_
  refine B2 rfl rfl (AJ3 rfl (A0 rfl) (A0 rfl)) ?_
  refine P7 ?_
  refine B9 (A0 rfl) ?_ ?_
  ·intro h24
   have hab : a ≠ b := by intro hc; subst hc; rw [hx] at hy; injection hy with hy; subst hy; simp at h24
   refine A3 (A2 ?_)
   refine A1 rfl (B6 rfl E9) ?_
   refine A4 ?_
   refine C2 ?_
   exact I3 rfl (C1 rfl (by exact congrArg AV.bool (by simp [hab])))
  intro h24
  refine C3 (A2 ?_)
  refine A1 rfl (G0 rfl (A0 rfl) B4 (by first | omega | (simp only [C8, A7, szR] at *; omega))) ?_
  refine A5 rfl ?_
  refine A4 ?_
  refine K4 i (i + 1) ?_ ?_ (K2 ⟨rfl, rfl, rfl, rfl, trivial⟩)
  ·exact ⟨by omega, Z9 hinv.2 hx (by rw [hy]; congr 1; simp_all)⟩
  omega
 intro h14
 have k14 := of_decide_eq_false h14; try simp only [A8] at k14
 have hge : a.length ≤ i := by omega
 have hab : a = b := i4 heq hinv.2 hge
 refine G1 ?_
 refine A3 (A2 ?_)
 refine A1 rfl (B6 rfl E9) ?_
 refine A4 ?_
 refine C2 ?_
 exact I3 rfl (C1 rfl (by exact congrArg AV.bool (by simp [hab])))
end Go.Proofs.YtoaoicnnimjbeaaGreat
