/- Texts of the claim, part 3. -/
import Derived.Test.YtnlhbdkcgaeimaaGreatRows
import Derived.Laws.BytesArg
import Derived.Test.YtnlhbdkcgaeimaaGreatZFloor2

set_option linter.unusedVariables false
set_option linter.unusedSimpArgs false
set_option maxRecDepth 100000
namespace Go.Proofs.YtnlhbdkcgaeimaaGreat
open Go Go.AV Go.M
attribute [local irreducible] OpW OpA OpS AWP FSpec ESpec RetOk RvDen Le Ev GuardIs
theorem AM1 (l : List TWrite) (pre : TWrite → Prop) (f : TWrite → Bool) (hp : ∀ x ∈ l, pre x) : FSpec Tryz.prog 245 [AV.list 3 (l.map TWrite.cs), AV.fun1 Tryz.prog pre (fun a => AV.agg a.cs) (fun a => AV.bool (f a))] (AV.int (idxFrom f l 0)) := by
 refine E7 Tryz.func245 rfl Tryz.ntmps245 rfl ?_
 refine T1 (t := 0) rfl fun hl => ?_
 try simp only [A6] at hl
 refine A3 (A2 ?_)
 refine A1 rfl rfl rfl (C3 rfl C4) ?_
 refine A4 (A3 (A3 (A2 ?_)))
 refine A5 rfl rfl rfl rfl rfl ?_
 refine A1 rfl rfl rfl (G9 rfl F3 (A0 rfl)) ?_
 refine A1 rfl rfl rfl (C6 rfl C4) ?_
 refine A4 (D7 ?_)
 refine J9 [(0, _), (1, _), (7, _)] _ (fun (i : Nat) => i ≤ l.length ∧ idxFrom f l 0 = idxFrom f (l.drop i) i) (fun (i : Nat) => []) (fun (i : Nat) => [(8, AV.int i)]) (fun (i : Nat) => l.length - i) (0) ?_ (J8 ⟨rfl, rfl, rfl, rfl, trivial⟩) ?_
 ·exact ⟨Nat.zero_le _, rfl⟩
 intro i hinv
 refine A3 (A2 ?_)
 refine A1 rfl rfl rfl (K6 rfl (A0 rfl) (A0 rfl)) ?_
 refine A4 (A3 ?_)
 refine C7 (A0 rfl) ?_ ?_
 ·intro h9
  have k9 := of_decide_eq_true h9; try simp only [A6] at k9
  have hlt : i < l.length := by omega
  obtain ⟨x, hx⟩ := get_some hlt
  refine D2 (A3 (D7 (A3 (A2 ?_))))
  refine A5 rfl rfl rfl rfl rfl ?_
  refine B9 rfl rfl rfl rfl rfl ?_
  refine A4 (A3 (A2 ?_))
  refine A5 rfl rfl rfl rfl rfl ?_
  refine A5 rfl rfl rfl rfl rfl ?_
  refine A5 rfl rfl rfl rfl rfl ?_
  refine A1 rfl rfl rfl (I7 rfl F3 H7 (A0 rfl) (A0 rfl) hx (by first | omega | (simp only [A6, A7, B2, B7, A8, szR] at *; omega))) ?_
  refine A1 rfl rfl rfl (K4 rfl (A0 rfl) S5 H7) ?_
  refine A1 rfl rfl rfl (AU7 rfl (A0 rfl) x (hp x (G6 hx)) (A0 rfl)) ?_
  refine A4 ?_
  refine C7 (A0 rfl) ?_ ?_
  ·intro h16
   refine A3 (A2 ?_)
   refine A5 rfl rfl rfl rfl rfl ?_
   refine B9 rfl rfl rfl rfl rfl ?_
   refine A4 ?_
   refine C8 ?_
   exact H9 rfl (C5 rfl (by first | exact congrArg AV.int (by rw [hinv.2, drop_some hx, idxFrom, h16]; rfl) | exact congrArg AV.int (by rw [hinv.2, List.drop_eq_nil_of_le hge]; rfl)))
  ·intro h16
   refine D2 (A2 ?_)
   refine A1 rfl rfl rfl (G7 rfl (A0 rfl) C4 (by first | omega | (simp only [A6, A7, B2, B7, A8, szR] at *; omega))) ?_
   refine A5 rfl rfl rfl rfl rfl ?_
   refine A4 ?_
   refine L4 i (i + 1) ?_ ?_ (J8 ⟨rfl, rfl, rfl, rfl, trivial⟩)
   ·exact ⟨by omega, by rw [hinv.2, drop_some hx, idxFrom, h16]; simp⟩
   ·omega
 ·intro h9
  have k9 := of_decide_eq_false h9; try simp only [A6] at k9
  have hge : l.length ≤ i := by omega
  refine H3 ?_
  refine A3 (A2 ?_)
  refine A1 rfl rfl rfl (C3 rfl C4) ?_
  refine A4 ?_
  refine C8 ?_
  exact H9 rfl (C5 rfl (by first | exact congrArg AV.int (by rw [hinv.2, drop_some hx, idxFrom, h16]; rfl) | exact congrArg AV.int (by rw [hinv.2, List.drop_eq_nil_of_le hge]; rfl)))
theorem g7 (l : List TWrite) (pre : TWrite → Prop) (f : TWrite → Bool) (hp : ∀ x ∈ l, pre x) : FSpec Tryz.prog 186 [AV.list 3 (l.map TWrite.cs), AV.fun1 Tryz.prog pre (fun a => AV.agg a.cs) (fun a => AV.bool (f a))] (AV.bool (l.any f)) := by
 refine E7 Tryz.func186 rfl Tryz.ntmps186 rfl ?_
 refine A3 (A2 ?_)
 refine A1 rfl rfl rfl (C3 rfl F4) ?_
 refine A4 (A3 (A2 ?_))
 refine A5 rfl rfl rfl rfl rfl ?_
 refine A5 rfl rfl rfl rfl rfl ?_
 refine A1 rfl rfl rfl (E5 rfl Tryz.call245 rfl (AM1 _ _ _ (by first | (intros; trivial) | assumption | (intros; first | trivial | (simp_all; done)))) (A9 (A0 rfl) (A9 (A0 rfl) D1))) ?_
 refine A1 rfl rfl rfl (d6 rfl (A0 rfl) C4) ?_
 refine B9 rfl rfl rfl rfl rfl ?_
 refine A4 ?_
 refine C8 ?_
 exact H9 rfl (C5 rfl (by exact congrArg AV.bool (p3 f l 0 (Int.le_refl 0))))
theorem AS2 (l : List TRec) (pre : TRec → Prop) (f : TRec → Bool) (hp : ∀ x ∈ l, pre x) : FSpec Tryz.prog 176 [AV.list 7 (l.map TRec.cs), AV.fun1 Tryz.prog pre (fun a => AV.agg a.cs) (fun a => AV.bool (f a))] (AV.int (idxFrom f l 0)) := by
 refine E7 Tryz.func176 rfl Tryz.ntmps176 rfl ?_
 refine T1 (t := 0) rfl fun hl => ?_
 try simp only [A6] at hl
 refine A3 (A2 ?_)
 refine A1 rfl rfl rfl (C3 rfl C4) ?_
 refine A4 (A3 (A3 (A2 ?_)))
 refine A5 rfl rfl rfl rfl rfl ?_
 refine A1 rfl rfl rfl (G9 rfl I9 (A0 rfl)) ?_
 refine A1 rfl rfl rfl (C6 rfl C4) ?_
 refine A4 (D7 ?_)
 refine J9 [(0, _), (1, _), (7, _)] _ (fun (i : Nat) => i ≤ l.length ∧ idxFrom f l 0 = idxFrom f (l.drop i) i) (fun (i : Nat) => []) (fun (i : Nat) => [(8, AV.int i)]) (fun (i : Nat) => l.length - i) (0) ?_ (J8 ⟨rfl, rfl, rfl, rfl, trivial⟩) ?_
 ·exact ⟨Nat.zero_le _, rfl⟩
 intro i hinv
 refine A3 (A2 ?_)
 refine A1 rfl rfl rfl (K6 rfl (A0 rfl) (A0 rfl)) ?_
 refine A4 (A3 ?_)
 refine C7 (A0 rfl) ?_ ?_
 ·intro h9
  have k9 := of_decide_eq_true h9; try simp only [A6] at k9
  have hlt : i < l.length := by omega
  obtain ⟨x, hx⟩ := get_some hlt
  refine D2 (A3 (D7 (A3 (A2 ?_))))
  refine A5 rfl rfl rfl rfl rfl ?_
  refine B9 rfl rfl rfl rfl rfl ?_
  refine A4 (A3 (A2 ?_))
  refine A5 rfl rfl rfl rfl rfl ?_
  refine A5 rfl rfl rfl rfl rfl ?_
  refine A5 rfl rfl rfl rfl rfl ?_
  refine A1 rfl rfl rfl (I7 rfl I9 F7 (A0 rfl) (A0 rfl) hx (by first | omega | (simp only [A6, A7, B2, B7, A8, szR] at *; omega))) ?_
  refine A1 rfl rfl rfl (K4 rfl (A0 rfl) K7 F7) ?_
  refine A1 rfl rfl rfl (AU7 rfl (A0 rfl) x (hp x (G6 hx)) (A0 rfl)) ?_
  refine A4 ?_
  refine C7 (A0 rfl) ?_ ?_
  ·intro h16
   refine A3 (A2 ?_)
   refine A5 rfl rfl rfl rfl rfl ?_
   refine B9 rfl rfl rfl rfl rfl ?_
   refine A4 ?_
   refine C8 ?_
   exact H9 rfl (C5 rfl (by first | exact congrArg AV.int (by rw [hinv.2, drop_some hx, idxFrom, h16]; rfl) | exact congrArg AV.int (by rw [hinv.2, List.drop_eq_nil_of_le hge]; rfl)))
  ·intro h16
   refine D2 (A2 ?_)
   refine A1 rfl rfl rfl (G7 rfl (A0 rfl) C4 (by first | omega | (simp only [A6, A7, B2, B7, A8, szR] at *; omega))) ?_
   refine A5 rfl rfl rfl rfl rfl ?_
   refine A4 ?_
   refine L4 i (i + 1) ?_ ?_ (J8 ⟨rfl, rfl, rfl, rfl, trivial⟩)
   ·exact ⟨by omega, by rw [hinv.2, drop_some hx, idxFrom, h16]; simp⟩
   ·omega
 ·intro h9
  have k9 := of_decide_eq_false h9; try simp only [A6] at k9
  have hge : l.length ≤ i := by omega
  refine H3 ?_
  refine A3 (A2 ?_)
  refine A1 rfl rfl rfl (C3 rfl C4) ?_
  refine A4 ?_
  refine C8 ?_
  exact H9 rfl (C5 rfl (by first | exact congrArg AV.int (by rw [hinv.2, drop_some hx, idxFrom, h16]; rfl) | exact congrArg AV.int (by rw [hinv.2, List.drop_eq_nil_of_le hge]; rfl)))
theorem AK1 (l : List TRec) (pre : TRec → Prop) (f : TRec → Bool) (hp : ∀ x ∈ l, pre x) : FSpec Tryz.prog 81 [AV.list 7 (l.map TRec.cs), AV.fun1 Tryz.prog pre (fun a => AV.agg a.cs) (fun a => AV.bool (f a))] (AV.bool (l.any f)) := by
 refine E7 Tryz.func81 rfl Tryz.ntmps81 rfl ?_
 refine A3 (A2 ?_)
 refine A1 rfl rfl rfl (C3 rfl F4) ?_
 refine A4 (A3 (A2 ?_))
 refine A5 rfl rfl rfl rfl rfl ?_
 refine A5 rfl rfl rfl rfl rfl ?_
 refine A1 rfl rfl rfl (E5 rfl Tryz.call176 rfl (AS2 _ _ _ (by first | (intros; trivial) | assumption | (intros; first | trivial | (simp_all; done)))) (A9 (A0 rfl) (A9 (A0 rfl) D1))) ?_
 refine A1 rfl rfl rfl (d6 rfl (A0 rfl) C4) ?_
 refine B9 rfl rfl rfl rfl rfl ?_
 refine A4 ?_
 refine C8 ?_
 exact H9 rfl (C5 rfl (by exact congrArg AV.bool (p3 f l 0 (Int.le_refl 0))))
theorem AO8 (l : List THeld) (pre : THeld → Prop) (f : THeld → Bool) (hp : ∀ x ∈ l, pre x) : FSpec Tryz.prog 243 [AV.list 5 (l.map THeld.cs), AV.fun1 Tryz.prog pre (fun a => AV.agg a.cs) (fun a => AV.bool (f a))] (AV.int (idxFrom f l 0)) := by
 refine E7 Tryz.func243 rfl Tryz.ntmps243 rfl ?_
 refine T1 (t := 0) rfl fun hl => ?_
 try simp only [A6] at hl
 refine A3 (A2 ?_)
 refine A1 rfl rfl rfl (C3 rfl C4) ?_
 refine A4 (A3 (A3 (A2 ?_)))
 refine A5 rfl rfl rfl rfl rfl ?_
 refine A1 rfl rfl rfl (G9 rfl C9 (A0 rfl)) ?_
 refine A1 rfl rfl rfl (C6 rfl C4) ?_
 refine A4 (D7 ?_)
 refine J9 [(0, _), (1, _), (7, _)] _ (fun (i : Nat) => i ≤ l.length ∧ idxFrom f l 0 = idxFrom f (l.drop i) i) (fun (i : Nat) => []) (fun (i : Nat) => [(8, AV.int i)]) (fun (i : Nat) => l.length - i) (0) ?_ (J8 ⟨rfl, rfl, rfl, rfl, trivial⟩) ?_
 ·exact ⟨Nat.zero_le _, rfl⟩
 intro i hinv
 refine A3 (A2 ?_)
 refine A1 rfl rfl rfl (K6 rfl (A0 rfl) (A0 rfl)) ?_
 refine A4 (A3 ?_)
 refine C7 (A0 rfl) ?_ ?_
 ·intro h9
  have k9 := of_decide_eq_true h9; try simp only [A6] at k9
  have hlt : i < l.length := by omega
  obtain ⟨x, hx⟩ := get_some hlt
  refine D2 (A3 (D7 (A3 (A2 ?_))))
  refine A5 rfl rfl rfl rfl rfl ?_
  refine B9 rfl rfl rfl rfl rfl ?_
  refine A4 (A3 (A2 ?_))
  refine A5 rfl rfl rfl rfl rfl ?_
  refine A5 rfl rfl rfl rfl rfl ?_
  refine A5 rfl rfl rfl rfl rfl ?_
  refine A1 rfl rfl rfl (I7 rfl C9 D3 (A0 rfl) (A0 rfl) hx (by first | omega | (simp only [A6, A7, B2, B7, A8, szR] at *; omega))) ?_
  refine A1 rfl rfl rfl (K4 rfl (A0 rfl) I0 D3) ?_
  refine A1 rfl rfl rfl (AU7 rfl (A0 rfl) x (hp x (G6 hx)) (A0 rfl)) ?_
  refine A4 ?_
  refine C7 (A0 rfl) ?_ ?_
  ·intro h16
   refine A3 (A2 ?_)
   refine A5 rfl rfl rfl rfl rfl ?_
   refine B9 rfl rfl rfl rfl rfl ?_
   refine A4 ?_
   refine C8 ?_
   exact H9 rfl (C5 rfl (by first | exact congrArg AV.int (by rw [hinv.2, drop_some hx, idxFrom, h16]; rfl) | exact congrArg AV.int (by rw [hinv.2, List.drop_eq_nil_of_le hge]; rfl)))
  ·intro h16
   refine D2 (A2 ?_)
   refine A1 rfl rfl rfl (G7 rfl (A0 rfl) C4 (by first | omega | (simp only [A6, A7, B2, B7, A8, szR] at *; omega))) ?_
   refine A5 rfl rfl rfl rfl rfl ?_
   refine A4 ?_
   refine L4 i (i + 1) ?_ ?_ (J8 ⟨rfl, rfl, rfl, rfl, trivial⟩)
   ·exact ⟨by omega, by rw [hinv.2, drop_some hx, idxFrom, h16]; simp⟩
   ·omega
 ·intro h9
  have k9 := of_decide_eq_false h9; try simp only [A6] at k9
  have hge : l.length ≤ i := by omega
  refine H3 ?_
  refine A3 (A2 ?_)
  refine A1 rfl rfl rfl (C3 rfl C4) ?_
  refine A4 ?_
  refine C8 ?_
  exact H9 rfl (C5 rfl (by first | exact congrArg AV.int (by rw [hinv.2, drop_some hx, idxFrom, h16]; rfl) | exact congrArg AV.int (by rw [hinv.2, List.drop_eq_nil_of_le hge]; rfl)))
theorem r3 (l : List THeld) (pre : THeld → Prop) (f : THeld → Bool) (hp : ∀ x ∈ l, pre x) : FSpec Tryz.prog 183 [AV.list 5 (l.map THeld.cs), AV.fun1 Tryz.prog pre (fun a => AV.agg a.cs) (fun a => AV.bool (f a))] (AV.bool (l.any f)) := by
 refine E7 Tryz.func183 rfl Tryz.ntmps183 rfl ?_
 refine A3 (A2 ?_)
 refine A1 rfl rfl rfl (C3 rfl F4) ?_
 refine A4 (A3 (A2 ?_))
 refine A5 rfl rfl rfl rfl rfl ?_
 refine A5 rfl rfl rfl rfl rfl ?_
 refine A1 rfl rfl rfl (E5 rfl Tryz.call243 rfl (AO8 _ _ _ (by first | (intros; trivial) | assumption | (intros; first | trivial | (simp_all; done)))) (A9 (A0 rfl) (A9 (A0 rfl) D1))) ?_
 refine A1 rfl rfl rfl (d6 rfl (A0 rfl) C4) ?_
 refine B9 rfl rfl rfl rfl rfl ?_
 refine A4 ?_
 refine C8 ?_
 exact H9 rfl (C5 rfl (by exact congrArg AV.bool (p3 f l 0 (Int.le_refl 0))))
theorem AG0 (l : List TWrite) (v : Str) (pre : TWrite → Str → Prop) (hp : ∀ x ∈ l, pre x v) (f : TWrite → Str → Int) (hl2 : l.length ≤ 4611686018427387903) : FSpec Tryz.prog 267 [AV.list 3 (l.map TWrite.cs), AV.str v, AV.fun2 Tryz.prog pre (fun a => AV.agg a.cs) (fun b => AV.str b) (fun a b => AV.int (f a b))] (AV.tup [AV.int (bs (fun x => f x v) l 0 l.length), AV.bool (bsAt (fun x => f x v) l (bs (fun x => f x v) l 0 l.length))]) := by
 refine E7 Tryz.func267 rfl Tryz.ntmps267 rfl ?_
 refine T1 (t := 0) rfl fun hl => ?_
 try simp only [A6] at hl
 refine A3 (A2 ?_)
 refine A1 rfl rfl rfl (C3 rfl C4) ?_
 refine A1 rfl rfl rfl (C3 rfl F4) ?_
 refine A4 (A3 (A2 ?_))
 refine A5 rfl rfl rfl rfl rfl ?_
 refine A1 rfl rfl rfl (G9 rfl F3 (A0 rfl)) ?_
 refine B9 rfl rfl rfl rfl rfl ?_
 refine A4 (A3 (A2 ?_))
 refine A5 rfl rfl rfl rfl rfl ?_
 refine A1 rfl rfl rfl (C3 rfl C4) ?_
 refine B9 rfl rfl rfl rfl rfl ?_
 refine A4 (A3 (D7 ?_))
 refine R8 [(0, _), (1, _), (2, _), (6, _), (7, _), (8, _)] _ (fun (i : Nat) (j : Nat) => i ≤ j ∧ j ≤ l.length ∧ bs (fun x => f x v) l 0 l.length = bs (fun x => f x v) l i j) (fun (i : Nat) (j : Nat) => []) (fun (i : Nat) (j : Nat) => [(9, AV.int i), (10, AV.int j)]) (fun (i : Nat) (j : Nat) => j - i) (0) ((l.map TWrite.cs).length) ?_ (J8 ⟨rfl, rfl, rfl, rfl, rfl, rfl, rfl, rfl, trivial⟩) ?_
 ·exact ⟨Nat.zero_le _, by simp, by simp⟩
 intro i j hinv
 refine A3 (A3 (A2 ?_))
 refine A5 rfl rfl rfl rfl rfl ?_
 refine A5 rfl rfl rfl rfl rfl ?_
 refine A1 rfl rfl rfl (K6 rfl (A0 rfl) (A0 rfl)) ?_
 refine A4 ?_
 refine C7 (A0 rfl) ?_ ?_
 ·intro h17
  have k17 := of_decide_eq_true h17; try simp only [A6] at k17
  have hlt : i < j := by omega
  obtain ⟨x, hx⟩ := get_some (show (i + j) / 2 < l.length by omega)
  refine D2 (D7 (A3 (A2 ?_)))
  refine A5 rfl rfl rfl rfl rfl ?_
  refine A5 rfl rfl rfl rfl rfl ?_
  refine A1 rfl rfl rfl (G7 rfl (A0 rfl) (A0 rfl) (by omega)) ?_
  refine A1 rfl rfl rfl (e7 rfl (by kernel_rfl) Tryz.underlying253 (A0 rfl)) ?_
  refine A1 rfl rfl rfl (AQ4 rfl (A0 rfl) C4 (by decide) (by decide)) ?_
  refine A1 rfl rfl rfl (e7 rfl (by kernel_rfl) Q6 (A0 rfl)) ?_
  refine B9 rfl rfl rfl rfl rfl ?_
  refine A4 (A3 (A2 ?_))
  rw [AR3 (by omega)]
  refine A5 rfl rfl rfl rfl rfl ?_
  refine A5 rfl rfl rfl rfl rfl ?_
  refine A5 rfl rfl rfl rfl rfl ?_
  refine A1 rfl rfl rfl (I7 rfl F3 H7 (A0 rfl) (A0 rfl) hx (by first | omega | (simp only [A6, A7, B2, B7, A8, szR] at *; omega))) ?_
  refine A1 rfl rfl rfl (K4 rfl (A0 rfl) S5 H7) ?_
  refine A5 rfl rfl rfl rfl rfl ?_
  refine A1 rfl rfl rfl (m3 rfl (A0 rfl) x v (hp x (G6 hx)) (A0 rfl) (A0 rfl)) ?_
  refine A1 rfl rfl rfl (K6 rfl (A0 rfl) C4) ?_
  refine A4 ?_
  refine C7 (A0 rfl) ?_ ?_
  ·intro h31
   have k31 := of_decide_eq_true h31; try simp only [A6] at k31
   refine A2 ?_
   refine A5 rfl rfl rfl rfl rfl ?_
   refine A1 rfl rfl rfl (G7 rfl (A0 rfl) C4 (by first | omega | (simp only [A6, A7, B2, B7, A8, szR] at *; omega))) ?_
   refine B9 rfl rfl rfl rfl rfl ?_
   refine A4 ?_
   refine l5 ?_
   refine Q1 i j ((i + j) / 2 + 1) (j) ?_ ?_ (J8 ⟨rfl, rfl, rfl, rfl, rfl, rfl, rfl, rfl, trivial⟩)
   ·exact ⟨by omega, by omega, by rw [hinv.2.2, AR1 hlt hx k31]⟩
   ·omega
  ·intro h31
   have k31 := of_decide_eq_false h31; try simp only [A6] at k31
   refine A2 ?_
   refine A5 rfl rfl rfl rfl rfl ?_
   refine B9 rfl rfl rfl rfl rfl ?_
   refine A4 ?_
   refine l5 ?_
   refine Q1 i j (i) ((i + j) / 2) ?_ ?_ (J8 ⟨rfl, rfl, rfl, rfl, rfl, rfl, rfl, rfl, trivial⟩)
   ·exact ⟨by omega, by omega, by rw [hinv.2.2, AR2 hlt hx k31]⟩
   ·omega
 ·intro h17
  have k17 := of_decide_eq_false h17; try simp only [A6] at k17
  have hge : bs (fun x => f x v) l 0 l.length = i := by rw [hinv.2.2, AH1 (by omega)]
  obtain ⟨y, hy⟩ := AC8 l i
  refine H3 ?_
  refine A3 (A2 ?_)
  refine A5 rfl rfl rfl rfl rfl ?_
  refine A5 rfl rfl rfl rfl rfl ?_
  refine A5 rfl rfl rfl rfl rfl ?_
  refine A1 rfl rfl rfl (K6 rfl (A0 rfl) (A0 rfl)) ?_
  refine A5 rfl rfl rfl rfl rfl ?_
  refine B4 rfl rfl (C2 rfl rfl rfl) (fun hc => C6 rfl (A0 rfl)) ?_
  refine B4 rfl rfl (C2 rfl rfl rfl) (fun hc => C6 rfl (A0 rfl)) ?_
  refine B4 rfl rfl (C2 rfl rfl rfl) (fun hc => C6 rfl (A0 rfl)) ?_
  refine B4 rfl rfl (C2 rfl rfl rfl) (fun hc => I7 rfl F3 H7 (B0 rfl hc) (B0 rfl hc) (hy (by first | omega | ((try simp only [A6, A7, B2, B7, A8, szR] at *); omega) | (have hc2 := hc; simp only [Bool.and_eq_true, Bool.or_eq_true, Bool.or_eq_false_iff, Bool.and_eq_false_iff, Bool.not_eq_true', Bool.not_eq_false', decide_eq_true_eq, decide_eq_false_iff_not, beq_iff_eq, bne_iff_ne, A6, A7] at hc2; omega))) rfl) ?_
  refine B4 rfl rfl (C2 rfl rfl rfl) (fun hc => K4 rfl (B0 rfl hc) S5 H7) ?_
  refine B4 rfl rfl (C2 rfl rfl rfl) (fun hc => C6 rfl (A0 rfl)) ?_
  refine B4 rfl rfl (C2 rfl rfl rfl) (fun hc => m3 rfl (B0 rfl hc) y v (hp y (G6 (hy (by first | omega | ((try simp only [A6, A7, B2, B7, A8, szR] at *); omega) | (have hc2 := hc; simp only [Bool.and_eq_true, Bool.or_eq_true, Bool.or_eq_false_iff, Bool.and_eq_false_iff, Bool.not_eq_true', Bool.not_eq_false', decide_eq_true_eq, decide_eq_false_iff_not, beq_iff_eq, bne_iff_ne, A6, A7] at hc2; omega))))) (B0 rfl hc) (B0 rfl hc)) ?_
  refine B4 rfl rfl (C2 rfl rfl rfl) (fun hc => M9 rfl (B0 rfl hc) C4) ?_
  refine A1 rfl rfl rfl (I6 rfl (A0 rfl) (G4 rfl)) ?_
  refine B9 rfl rfl rfl rfl rfl ?_
  refine B9 rfl rfl rfl rfl rfl ?_
  refine A4 ?_
  refine C8 ?_
  exact X2 rfl (by decide) (E6 (C5 rfl (by first | exact congrArg AV.int (by rw [hge]) | exact congrArg AV.bool (by rw [hge]; unfold bsAt; simp only [A6]; cases Nat.lt_or_ge i l.length with | inl hi => (rw [hy hi]; simp [hi]) | inr hi => (rw [List.getElem?_eq_none (by omega)]; simp only [decide_eq_false (show ¬ ((i : Int) < (l.length : Int)) by omega), Bool.false_and])))) (E6 (C5 rfl (by first | exact congrArg AV.int (by rw [hge]) | exact congrArg AV.bool (by rw [hge]; unfold bsAt; simp only [A6]; cases Nat.lt_or_ge i l.length with | inl hi => (rw [hy hi]; simp [hi]) | inr hi => (rw [List.getElem?_eq_none (by omega)]; simp only [decide_eq_false (show ¬ ((i : Int) < (l.length : Int)) by omega), Bool.false_and])))) K8))
theorem AH4 (l : List TCell) (v : Str) (pre : TCell → Str → Prop) (hp : ∀ x ∈ l, pre x v) (f : TCell → Str → Int) (hl2 : l.length ≤ 4611686018427387903) : FSpec Tryz.prog 248 [AV.list 2 (l.map TCell.cs), AV.str v, AV.fun2 Tryz.prog pre (fun a => AV.agg a.cs) (fun b => AV.str b) (fun a b => AV.int (f a b))] (AV.tup [AV.int (bs (fun x => f x v) l 0 l.length), AV.bool (bsAt (fun x => f x v) l (bs (fun x => f x v) l 0 l.length))]) := by
 refine E7 Tryz.func248 rfl Tryz.ntmps248 rfl ?_
 refine T1 (t := 0) rfl fun hl => ?_
 try simp only [A6] at hl
 refine A3 (A2 ?_)
 refine A1 rfl rfl rfl (C3 rfl C4) ?_
 refine A1 rfl rfl rfl (C3 rfl F4) ?_
 refine A4 (A3 (A2 ?_))
 refine A5 rfl rfl rfl rfl rfl ?_
 refine A1 rfl rfl rfl (G9 rfl D8 (A0 rfl)) ?_
 refine B9 rfl rfl rfl rfl rfl ?_
 refine A4 (A3 (A2 ?_))
 refine A5 rfl rfl rfl rfl rfl ?_
 refine A1 rfl rfl rfl (C3 rfl C4) ?_
 refine B9 rfl rfl rfl rfl rfl ?_
 refine A4 (A3 (D7 ?_))
 refine R8 [(0, _), (1, _), (2, _), (6, _), (7, _), (8, _)] _ (fun (i : Nat) (j : Nat) => i ≤ j ∧ j ≤ l.length ∧ bs (fun x => f x v) l 0 l.length = bs (fun x => f x v) l i j) (fun (i : Nat) (j : Nat) => []) (fun (i : Nat) (j : Nat) => [(9, AV.int i), (10, AV.int j)]) (fun (i : Nat) (j : Nat) => j - i) (0) ((l.map TCell.cs).length) ?_ (J8 ⟨rfl, rfl, rfl, rfl, rfl, rfl, rfl, rfl, trivial⟩) ?_
 ·exact ⟨Nat.zero_le _, by simp, by simp⟩
 intro i j hinv
 refine A3 (A3 (A2 ?_))
 refine A5 rfl rfl rfl rfl rfl ?_
 refine A5 rfl rfl rfl rfl rfl ?_
 refine A1 rfl rfl rfl (K6 rfl (A0 rfl) (A0 rfl)) ?_
 refine A4 ?_
 refine C7 (A0 rfl) ?_ ?_
 ·intro h17
  have k17 := of_decide_eq_true h17; try simp only [A6] at k17
  have hlt : i < j := by omega
  obtain ⟨x, hx⟩ := get_some (show (i + j) / 2 < l.length by omega)
  refine D2 (D7 (A3 (A2 ?_)))
  refine A5 rfl rfl rfl rfl rfl ?_
  refine A5 rfl rfl rfl rfl rfl ?_
  refine A1 rfl rfl rfl (G7 rfl (A0 rfl) (A0 rfl) (by omega)) ?_
  refine A1 rfl rfl rfl (e7 rfl (by kernel_rfl) Tryz.underlying253 (A0 rfl)) ?_
  refine A1 rfl rfl rfl (AQ4 rfl (A0 rfl) C4 (by decide) (by decide)) ?_
  refine A1 rfl rfl rfl (e7 rfl (by kernel_rfl) Q6 (A0 rfl)) ?_
  refine B9 rfl rfl rfl rfl rfl ?_
  refine A4 (A3 (A2 ?_))
  rw [AR3 (by omega)]
  refine A5 rfl rfl rfl rfl rfl ?_
  refine A5 rfl rfl rfl rfl rfl ?_
  refine A5 rfl rfl rfl rfl rfl ?_
  refine A1 rfl rfl rfl (I7 rfl D8 F0 (A0 rfl) (A0 rfl) hx (by first | omega | (simp only [A6, A7, B2, B7, A8, szR] at *; omega))) ?_
  refine A1 rfl rfl rfl (K4 rfl (A0 rfl) S9 F0) ?_
  refine A5 rfl rfl rfl rfl rfl ?_
  refine A1 rfl rfl rfl (m3 rfl (A0 rfl) x v (hp x (G6 hx)) (A0 rfl) (A0 rfl)) ?_
  refine A1 rfl rfl rfl (K6 rfl (A0 rfl) C4) ?_
  refine A4 ?_
  refine C7 (A0 rfl) ?_ ?_
  ·intro h31
   have k31 := of_decide_eq_true h31; try simp only [A6] at k31
   refine A2 ?_
   refine A5 rfl rfl rfl rfl rfl ?_
   refine A1 rfl rfl rfl (G7 rfl (A0 rfl) C4 (by first | omega | (simp only [A6, A7, B2, B7, A8, szR] at *; omega))) ?_
   refine B9 rfl rfl rfl rfl rfl ?_
   refine A4 ?_
   refine l5 ?_
   refine Q1 i j ((i + j) / 2 + 1) (j) ?_ ?_ (J8 ⟨rfl, rfl, rfl, rfl, rfl, rfl, rfl, rfl, trivial⟩)
   ·exact ⟨by omega, by omega, by rw [hinv.2.2, AR1 hlt hx k31]⟩
   ·omega
  ·intro h31
   have k31 := of_decide_eq_false h31; try simp only [A6] at k31
   refine A2 ?_
   refine A5 rfl rfl rfl rfl rfl ?_
   refine B9 rfl rfl rfl rfl rfl ?_
   refine A4 ?_
   refine l5 ?_
   refine Q1 i j (i) ((i + j) / 2) ?_ ?_ (J8 ⟨rfl, rfl, rfl, rfl, rfl, rfl, rfl, rfl, trivial⟩)
   ·exact ⟨by omega, by omega, by rw [hinv.2.2, AR2 hlt hx k31]⟩
   ·omega
 ·intro h17
  have k17 := of_decide_eq_false h17; try simp only [A6] at k17
  have hge : bs (fun x => f x v) l 0 l.length = i := by rw [hinv.2.2, AH1 (by omega)]
  obtain ⟨y, hy⟩ := AC8 l i
  refine H3 ?_
  refine A3 (A2 ?_)
  refine A5 rfl rfl rfl rfl rfl ?_
  refine A5 rfl rfl rfl rfl rfl ?_
  refine A5 rfl rfl rfl rfl rfl ?_
  refine A1 rfl rfl rfl (K6 rfl (A0 rfl) (A0 rfl)) ?_
  refine A5 rfl rfl rfl rfl rfl ?_
  refine B4 rfl rfl (C2 rfl rfl rfl) (fun hc => C6 rfl (A0 rfl)) ?_
  refine B4 rfl rfl (C2 rfl rfl rfl) (fun hc => C6 rfl (A0 rfl)) ?_
  refine B4 rfl rfl (C2 rfl rfl rfl) (fun hc => C6 rfl (A0 rfl)) ?_
  refine B4 rfl rfl (C2 rfl rfl rfl) (fun hc => I7 rfl D8 F0 (B0 rfl hc) (B0 rfl hc) (hy (by first | omega | ((try simp only [A6, A7, B2, B7, A8, szR] at *); omega) | (have hc2 := hc; simp only [Bool.and_eq_true, Bool.or_eq_true, Bool.or_eq_false_iff, Bool.and_eq_false_iff, Bool.not_eq_true', Bool.not_eq_false', decide_eq_true_eq, decide_eq_false_iff_not, beq_iff_eq, bne_iff_ne, A6, A7] at hc2; omega))) rfl) ?_
  refine B4 rfl rfl (C2 rfl rfl rfl) (fun hc => K4 rfl (B0 rfl hc) S9 F0) ?_
  refine B4 rfl rfl (C2 rfl rfl rfl) (fun hc => C6 rfl (A0 rfl)) ?_
  refine B4 rfl rfl (C2 rfl rfl rfl) (fun hc => m3 rfl (B0 rfl hc) y v (hp y (G6 (hy (by first | omega | ((try simp only [A6, A7, B2, B7, A8, szR] at *); omega) | (have hc2 := hc; simp only [Bool.and_eq_true, Bool.or_eq_true, Bool.or_eq_false_iff, Bool.and_eq_false_iff, Bool.not_eq_true', Bool.not_eq_false', decide_eq_true_eq, decide_eq_false_iff_not, beq_iff_eq, bne_iff_ne, A6, A7] at hc2; omega))))) (B0 rfl hc) (B0 rfl hc)) ?_
  refine B4 rfl rfl (C2 rfl rfl rfl) (fun hc => M9 rfl (B0 rfl hc) C4) ?_
  refine A1 rfl rfl rfl (I6 rfl (A0 rfl) (G4 rfl)) ?_
  refine B9 rfl rfl rfl rfl rfl ?_
  refine B9 rfl rfl rfl rfl rfl ?_
  refine A4 ?_
  refine C8 ?_
  exact X2 rfl (by decide) (E6 (C5 rfl (by first | exact congrArg AV.int (by rw [hge]) | exact congrArg AV.bool (by rw [hge]; unfold bsAt; simp only [A6]; cases Nat.lt_or_ge i l.length with | inl hi => (rw [hy hi]; simp [hi]) | inr hi => (rw [List.getElem?_eq_none (by omega)]; simp only [decide_eq_false (show ¬ ((i : Int) < (l.length : Int)) by omega), Bool.false_and])))) (E6 (C5 rfl (by first | exact congrArg AV.int (by rw [hge]) | exact congrArg AV.bool (by rw [hge]; unfold bsAt; simp only [A6]; cases Nat.lt_or_ge i l.length with | inl hi => (rw [hy hi]; simp [hi]) | inr hi => (rw [List.getElem?_eq_none (by omega)]; simp only [decide_eq_false (show ¬ ((i : Int) < (l.length : Int)) by omega), Bool.false_and])))) K8))
theorem AH5 (l : List THeld) (v : Int) (pre : THeld → Int → Prop) (hp : ∀ x ∈ l, pre x v) (f : THeld → Int → Int) (hl2 : l.length ≤ 4611686018427387903) : FSpec Tryz.prog 190 [AV.list 5 (l.map THeld.cs), AV.int v, AV.fun2 Tryz.prog pre (fun a => AV.agg a.cs) (fun b => AV.int b) (fun a b => AV.int (f a b))] (AV.tup [AV.int (bs (fun x => f x v) l 0 l.length), AV.bool (bsAt (fun x => f x v) l (bs (fun x => f x v) l 0 l.length))]) := by
 refine E7 Tryz.func190 rfl Tryz.ntmps190 rfl ?_
 refine T1 (t := 0) rfl fun hl => ?_
 try simp only [A6] at hl
 refine A3 (A2 ?_)
 refine A1 rfl rfl rfl (C3 rfl C4) ?_
 refine A1 rfl rfl rfl (C3 rfl F4) ?_
 refine A4 (A3 (A2 ?_))
 refine A5 rfl rfl rfl rfl rfl ?_
 refine A1 rfl rfl rfl (G9 rfl C9 (A0 rfl)) ?_
 refine B9 rfl rfl rfl rfl rfl ?_
 refine A4 (A3 (A2 ?_))
 refine A5 rfl rfl rfl rfl rfl ?_
 refine A1 rfl rfl rfl (C3 rfl C4) ?_
 refine B9 rfl rfl rfl rfl rfl ?_
 refine A4 (A3 (D7 ?_))
 refine R8 [(0, _), (1, _), (2, _), (6, _), (7, _), (8, _)] _ (fun (i : Nat) (j : Nat) => i ≤ j ∧ j ≤ l.length ∧ bs (fun x => f x v) l 0 l.length = bs (fun x => f x v) l i j) (fun (i : Nat) (j : Nat) => []) (fun (i : Nat) (j : Nat) => [(9, AV.int i), (10, AV.int j)]) (fun (i : Nat) (j : Nat) => j - i) (0) ((l.map THeld.cs).length) ?_ (J8 ⟨rfl, rfl, rfl, rfl, rfl, rfl, rfl, rfl, trivial⟩) ?_
 ·exact ⟨Nat.zero_le _, by simp, by simp⟩
 intro i j hinv
 refine A3 (A3 (A2 ?_))
 refine A5 rfl rfl rfl rfl rfl ?_
 refine A5 rfl rfl rfl rfl rfl ?_
 refine A1 rfl rfl rfl (K6 rfl (A0 rfl) (A0 rfl)) ?_
 refine A4 ?_
 refine C7 (A0 rfl) ?_ ?_
 ·intro h17
  have k17 := of_decide_eq_true h17; try simp only [A6] at k17
  have hlt : i < j := by omega
  obtain ⟨x, hx⟩ := get_some (show (i + j) / 2 < l.length by omega)
  refine D2 (D7 (A3 (A2 ?_)))
  refine A5 rfl rfl rfl rfl rfl ?_
  refine A5 rfl rfl rfl rfl rfl ?_
  refine A1 rfl rfl rfl (G7 rfl (A0 rfl) (A0 rfl) (by omega)) ?_
  refine A1 rfl rfl rfl (e7 rfl (by kernel_rfl) Tryz.underlying253 (A0 rfl)) ?_
  refine A1 rfl rfl rfl (AQ4 rfl (A0 rfl) C4 (by decide) (by decide)) ?_
  refine A1 rfl rfl rfl (e7 rfl (by kernel_rfl) Q6 (A0 rfl)) ?_
  refine B9 rfl rfl rfl rfl rfl ?_
  refine A4 (A3 (A2 ?_))
  rw [AR3 (by omega)]
  refine A5 rfl rfl rfl rfl rfl ?_
  refine A5 rfl rfl rfl rfl rfl ?_
  refine A5 rfl rfl rfl rfl rfl ?_
  refine A1 rfl rfl rfl (I7 rfl C9 D3 (A0 rfl) (A0 rfl) hx (by first | omega | (simp only [A6, A7, B2, B7, A8, szR] at *; omega))) ?_
  refine A1 rfl rfl rfl (K4 rfl (A0 rfl) I0 D3) ?_
  refine A5 rfl rfl rfl rfl rfl ?_
  refine A1 rfl rfl rfl (m3 rfl (A0 rfl) x v (hp x (G6 hx)) (A0 rfl) (A0 rfl)) ?_
  refine A1 rfl rfl rfl (K6 rfl (A0 rfl) C4) ?_
  refine A4 ?_
  refine C7 (A0 rfl) ?_ ?_
  ·intro h31
   have k31 := of_decide_eq_true h31; try simp only [A6] at k31
   refine A2 ?_
   refine A5 rfl rfl rfl rfl rfl ?_
   refine A1 rfl rfl rfl (G7 rfl (A0 rfl) C4 (by first | omega | (simp only [A6, A7, B2, B7, A8, szR] at *; omega))) ?_
   refine B9 rfl rfl rfl rfl rfl ?_
   refine A4 ?_
   refine l5 ?_
   refine Q1 i j ((i + j) / 2 + 1) (j) ?_ ?_ (J8 ⟨rfl, rfl, rfl, rfl, rfl, rfl, rfl, rfl, trivial⟩)
   ·exact ⟨by omega, by omega, by rw [hinv.2.2, AR1 hlt hx k31]⟩
   ·omega
  ·intro h31
   have k31 := of_decide_eq_false h31; try simp only [A6] at k31
   refine A2 ?_
   refine A5 rfl rfl rfl rfl rfl ?_
   refine B9 rfl rfl rfl rfl rfl ?_
   refine A4 ?_
   refine l5 ?_
   refine Q1 i j (i) ((i + j) / 2) ?_ ?_ (J8 ⟨rfl, rfl, rfl, rfl, rfl, rfl, rfl, rfl, trivial⟩)
   ·exact ⟨by omega, by omega, by rw [hinv.2.2, AR2 hlt hx k31]⟩
   ·omega
 ·intro h17
  have k17 := of_decide_eq_false h17; try simp only [A6] at k17
  have hge : bs (fun x => f x v) l 0 l.length = i := by rw [hinv.2.2, AH1 (by omega)]
  obtain ⟨y, hy⟩ := AC8 l i
  refine H3 ?_
  refine A3 (A2 ?_)
  refine A5 rfl rfl rfl rfl rfl ?_
  refine A5 rfl rfl rfl rfl rfl ?_
  refine A5 rfl rfl rfl rfl rfl ?_
  refine A1 rfl rfl rfl (K6 rfl (A0 rfl) (A0 rfl)) ?_
  refine A5 rfl rfl rfl rfl rfl ?_
  refine B4 rfl rfl (C2 rfl rfl rfl) (fun hc => C6 rfl (A0 rfl)) ?_
  refine B4 rfl rfl (C2 rfl rfl rfl) (fun hc => C6 rfl (A0 rfl)) ?_
  refine B4 rfl rfl (C2 rfl rfl rfl) (fun hc => C6 rfl (A0 rfl)) ?_
  refine B4 rfl rfl (C2 rfl rfl rfl) (fun hc => I7 rfl C9 D3 (B0 rfl hc) (B0 rfl hc) (hy (by first | omega | ((try simp only [A6, A7, B2, B7, A8, szR] at *); omega) | (have hc2 := hc; simp only [Bool.and_eq_true, Bool.or_eq_true, Bool.or_eq_false_iff, Bool.and_eq_false_iff, Bool.not_eq_true', Bool.not_eq_false', decide_eq_true_eq, decide_eq_false_iff_not, beq_iff_eq, bne_iff_ne, A6, A7] at hc2; omega))) rfl) ?_
  refine B4 rfl rfl (C2 rfl rfl rfl) (fun hc => K4 rfl (B0 rfl hc) I0 D3) ?_
  refine B4 rfl rfl (C2 rfl rfl rfl) (fun hc => C6 rfl (A0 rfl)) ?_
  refine B4 rfl rfl (C2 rfl rfl rfl) (fun hc => m3 rfl (B0 rfl hc) y v (hp y (G6 (hy (by first | omega | ((try simp only [A6, A7, B2, B7, A8, szR] at *); omega) | (have hc2 := hc; simp only [Bool.and_eq_true, Bool.or_eq_true, Bool.or_eq_false_iff, Bool.and_eq_false_iff, Bool.not_eq_true', Bool.not_eq_false', decide_eq_true_eq, decide_eq_false_iff_not, beq_iff_eq, bne_iff_ne, A6, A7] at hc2; omega))))) (B0 rfl hc) (B0 rfl hc)) ?_
  refine B4 rfl rfl (C2 rfl rfl rfl) (fun hc => M9 rfl (B0 rfl hc) C4) ?_
  refine A1 rfl rfl rfl (I6 rfl (A0 rfl) (G4 rfl)) ?_
  refine B9 rfl rfl rfl rfl rfl ?_
  refine B9 rfl rfl rfl rfl rfl ?_
  refine A4 ?_
  refine C8 ?_
  exact X2 rfl (by decide) (E6 (C5 rfl (by first | exact congrArg AV.int (by rw [hge]) | exact congrArg AV.bool (by rw [hge]; unfold bsAt; simp only [A6]; cases Nat.lt_or_ge i l.length with | inl hi => (rw [hy hi]; simp [hi]) | inr hi => (rw [List.getElem?_eq_none (by omega)]; simp only [decide_eq_false (show ¬ ((i : Int) < (l.length : Int)) by omega), Bool.false_and])))) (E6 (C5 rfl (by first | exact congrArg AV.int (by rw [hge]) | exact congrArg AV.bool (by rw [hge]; unfold bsAt; simp only [A6]; cases Nat.lt_or_ge i l.length with | inl hi => (rw [hy hi]; simp [hi]) | inr hi => (rw [List.getElem?_eq_none (by omega)]; simp only [decide_eq_false (show ¬ ((i : Int) < (l.length : Int)) by omega), Bool.false_and])))) K8))
theorem AH6 (l : List TTold) (v : Int) (pre : TTold → Int → Prop) (hp : ∀ x ∈ l, pre x v) (f : TTold → Int → Int) (hl2 : l.length ≤ 4611686018427387903) : FSpec Tryz.prog 193 [AV.list 3 (l.map TTold.cs), AV.int v, AV.fun2 Tryz.prog pre (fun a => AV.agg a.cs) (fun b => AV.int b) (fun a b => AV.int (f a b))] (AV.tup [AV.int (bs (fun x => f x v) l 0 l.length), AV.bool (bsAt (fun x => f x v) l (bs (fun x => f x v) l 0 l.length))]) := by
 refine E7 Tryz.func193 rfl Tryz.ntmps193 rfl ?_
 refine T1 (t := 0) rfl fun hl => ?_
 try simp only [A6] at hl
 refine A3 (A2 ?_)
 refine A1 rfl rfl rfl (C3 rfl C4) ?_
 refine A1 rfl rfl rfl (C3 rfl F4) ?_
 refine A4 (A3 (A2 ?_))
 refine A5 rfl rfl rfl rfl rfl ?_
 refine A1 rfl rfl rfl (G9 rfl E3 (A0 rfl)) ?_
 refine B9 rfl rfl rfl rfl rfl ?_
 refine A4 (A3 (A2 ?_))
 refine A5 rfl rfl rfl rfl rfl ?_
 refine A1 rfl rfl rfl (C3 rfl C4) ?_
 refine B9 rfl rfl rfl rfl rfl ?_
 refine A4 (A3 (D7 ?_))
 refine R8 [(0, _), (1, _), (2, _), (6, _), (7, _), (8, _)] _ (fun (i : Nat) (j : Nat) => i ≤ j ∧ j ≤ l.length ∧ bs (fun x => f x v) l 0 l.length = bs (fun x => f x v) l i j) (fun (i : Nat) (j : Nat) => []) (fun (i : Nat) (j : Nat) => [(9, AV.int i), (10, AV.int j)]) (fun (i : Nat) (j : Nat) => j - i) (0) ((l.map TTold.cs).length) ?_ (J8 ⟨rfl, rfl, rfl, rfl, rfl, rfl, rfl, rfl, trivial⟩) ?_
 ·exact ⟨Nat.zero_le _, by simp, by simp⟩
 intro i j hinv
 refine A3 (A3 (A2 ?_))
 refine A5 rfl rfl rfl rfl rfl ?_
 refine A5 rfl rfl rfl rfl rfl ?_
 refine A1 rfl rfl rfl (K6 rfl (A0 rfl) (A0 rfl)) ?_
 refine A4 ?_
 refine C7 (A0 rfl) ?_ ?_
 ·intro h17
  have k17 := of_decide_eq_true h17; try simp only [A6] at k17
  have hlt : i < j := by omega
  obtain ⟨x, hx⟩ := get_some (show (i + j) / 2 < l.length by omega)
  refine D2 (D7 (A3 (A2 ?_)))
  refine A5 rfl rfl rfl rfl rfl ?_
  refine A5 rfl rfl rfl rfl rfl ?_
  refine A1 rfl rfl rfl (G7 rfl (A0 rfl) (A0 rfl) (by omega)) ?_
  refine A1 rfl rfl rfl (e7 rfl (by kernel_rfl) Tryz.underlying253 (A0 rfl)) ?_
  refine A1 rfl rfl rfl (AQ4 rfl (A0 rfl) C4 (by decide) (by decide)) ?_
  refine A1 rfl rfl rfl (e7 rfl (by kernel_rfl) Q6 (A0 rfl)) ?_
  refine B9 rfl rfl rfl rfl rfl ?_
  refine A4 (A3 (A2 ?_))
  rw [AR3 (by omega)]
  refine A5 rfl rfl rfl rfl rfl ?_
  refine A5 rfl rfl rfl rfl rfl ?_
  refine A5 rfl rfl rfl rfl rfl ?_
  refine A1 rfl rfl rfl (I7 rfl E3 H2 (A0 rfl) (A0 rfl) hx (by first | omega | (simp only [A6, A7, B2, B7, A8, szR] at *; omega))) ?_
  refine A1 rfl rfl rfl (K4 rfl (A0 rfl) V2 H2) ?_
  refine A5 rfl rfl rfl rfl rfl ?_
  refine A1 rfl rfl rfl (m3 rfl (A0 rfl) x v (hp x (G6 hx)) (A0 rfl) (A0 rfl)) ?_
  refine A1 rfl rfl rfl (K6 rfl (A0 rfl) C4) ?_
  refine A4 ?_
  refine C7 (A0 rfl) ?_ ?_
  ·intro h31
   have k31 := of_decide_eq_true h31; try simp only [A6] at k31
   refine A2 ?_
   refine A5 rfl rfl rfl rfl rfl ?_
   refine A1 rfl rfl rfl (G7 rfl (A0 rfl) C4 (by first | omega | (simp only [A6, A7, B2, B7, A8, szR] at *; omega))) ?_
   refine B9 rfl rfl rfl rfl rfl ?_
   refine A4 ?_
   refine l5 ?_
   refine Q1 i j ((i + j) / 2 + 1) (j) ?_ ?_ (J8 ⟨rfl, rfl, rfl, rfl, rfl, rfl, rfl, rfl, trivial⟩)
   ·exact ⟨by omega, by omega, by rw [hinv.2.2, AR1 hlt hx k31]⟩
   ·omega
  ·intro h31
   have k31 := of_decide_eq_false h31; try simp only [A6] at k31
   refine A2 ?_
   refine A5 rfl rfl rfl rfl rfl ?_
   refine B9 rfl rfl rfl rfl rfl ?_
   refine A4 ?_
   refine l5 ?_
   refine Q1 i j (i) ((i + j) / 2) ?_ ?_ (J8 ⟨rfl, rfl, rfl, rfl, rfl, rfl, rfl, rfl, trivial⟩)
   ·exact ⟨by omega, by omega, by rw [hinv.2.2, AR2 hlt hx k31]⟩
   ·omega
 ·intro h17
  have k17 := of_decide_eq_false h17; try simp only [A6] at k17
  have hge : bs (fun x => f x v) l 0 l.length = i := by rw [hinv.2.2, AH1 (by omega)]
  obtain ⟨y, hy⟩ := AC8 l i
  refine H3 ?_
  refine A3 (A2 ?_)
  refine A5 rfl rfl rfl rfl rfl ?_
  refine A5 rfl rfl rfl rfl rfl ?_
  refine A5 rfl rfl rfl rfl rfl ?_
  refine A1 rfl rfl rfl (K6 rfl (A0 rfl) (A0 rfl)) ?_
  refine A5 rfl rfl rfl rfl rfl ?_
  refine B4 rfl rfl (C2 rfl rfl rfl) (fun hc => C6 rfl (A0 rfl)) ?_
  refine B4 rfl rfl (C2 rfl rfl rfl) (fun hc => C6 rfl (A0 rfl)) ?_
  refine B4 rfl rfl (C2 rfl rfl rfl) (fun hc => C6 rfl (A0 rfl)) ?_
  refine B4 rfl rfl (C2 rfl rfl rfl) (fun hc => I7 rfl E3 H2 (B0 rfl hc) (B0 rfl hc) (hy (by first | omega | ((try simp only [A6, A7, B2, B7, A8, szR] at *); omega) | (have hc2 := hc; simp only [Bool.and_eq_true, Bool.or_eq_true, Bool.or_eq_false_iff, Bool.and_eq_false_iff, Bool.not_eq_true', Bool.not_eq_false', decide_eq_true_eq, decide_eq_false_iff_not, beq_iff_eq, bne_iff_ne, A6, A7] at hc2; omega))) rfl) ?_
  refine B4 rfl rfl (C2 rfl rfl rfl) (fun hc => K4 rfl (B0 rfl hc) V2 H2) ?_
  refine B4 rfl rfl (C2 rfl rfl rfl) (fun hc => C6 rfl (A0 rfl)) ?_
  refine B4 rfl rfl (C2 rfl rfl rfl) (fun hc => m3 rfl (B0 rfl hc) y v (hp y (G6 (hy (by first | omega | ((try simp only [A6, A7, B2, B7, A8, szR] at *); omega) | (have hc2 := hc; simp only [Bool.and_eq_true, Bool.or_eq_true, Bool.or_eq_false_iff, Bool.and_eq_false_iff, Bool.not_eq_true', Bool.not_eq_false', decide_eq_true_eq, decide_eq_false_iff_not, beq_iff_eq, bne_iff_ne, A6, A7] at hc2; omega))))) (B0 rfl hc) (B0 rfl hc)) ?_
  refine B4 rfl rfl (C2 rfl rfl rfl) (fun hc => M9 rfl (B0 rfl hc) C4) ?_
  refine A1 rfl rfl rfl (I6 rfl (A0 rfl) (G4 rfl)) ?_
  refine B9 rfl rfl rfl rfl rfl ?_
  refine B9 rfl rfl rfl rfl rfl ?_
  refine A4 ?_
  refine C8 ?_
  exact X2 rfl (by decide) (E6 (C5 rfl (by first | exact congrArg AV.int (by rw [hge]) | exact congrArg AV.bool (by rw [hge]; unfold bsAt; simp only [A6]; cases Nat.lt_or_ge i l.length with | inl hi => (rw [hy hi]; simp [hi]) | inr hi => (rw [List.getElem?_eq_none (by omega)]; simp only [decide_eq_false (show ¬ ((i : Int) < (l.length : Int)) by omega), Bool.false_and])))) (E6 (C5 rfl (by first | exact congrArg AV.int (by rw [hge]) | exact congrArg AV.bool (by rw [hge]; unfold bsAt; simp only [A6]; cases Nat.lt_or_ge i l.length with | inl hi => (rw [hy hi]; simp [hi]) | inr hi => (rw [List.getElem?_eq_none (by omega)]; simp only [decide_eq_false (show ¬ ((i : Int) < (l.length : Int)) by omega), Bool.false_and])))) K8))
theorem AV8 (l : List Str) (v : Str) : FSpec Tryz.prog 296 [strs l, AV.str v] (AV.int (idxFrom (fun x => v == x) l 0)) := by
 refine E7 Tryz.func296 rfl Tryz.ntmps296 rfl ?_
 refine T1 (t := 0) rfl fun hl => ?_
 try simp only [A6] at hl
 refine A3 (A2 ?_)
 refine A1 rfl rfl rfl (C3 rfl C4) ?_
 refine A4 (A3 (A3 (A2 ?_)))
 refine A5 rfl rfl rfl rfl rfl ?_
 refine A1 rfl rfl rfl (G9 rfl E4 (A0 rfl)) ?_
 refine A1 rfl rfl rfl (C6 rfl C4) ?_
 refine A4 (D7 ?_)
 refine J9 [(0, _), (1, _), (7, _)] _ (fun (i : Nat) => i ≤ l.length ∧ idxFrom (fun x => v == x) l 0 = idxFrom (fun x => v == x) (l.drop i) i) (fun (i : Nat) => []) (fun (i : Nat) => [(8, AV.int i)]) (fun (i : Nat) => l.length - i) (0) ?_ (J8 ⟨rfl, rfl, rfl, rfl, trivial⟩) ?_
 ·exact ⟨Nat.zero_le _, rfl⟩
 intro i hinv
 refine A3 (A2 ?_)
 refine A1 rfl rfl rfl (K6 rfl (A0 rfl) (A0 rfl)) ?_
 refine A4 (A3 ?_)
 refine C7 (A0 rfl) ?_ ?_
 ·intro h9
  have k9 := of_decide_eq_true h9; try simp only [A6] at k9
  have hlt : i < l.length := by omega
  obtain ⟨x, hx⟩ := get_some hlt
  refine D2 (A3 (D7 (A3 (A2 ?_))))
  refine A5 rfl rfl rfl rfl rfl ?_
  refine B9 rfl rfl rfl rfl rfl ?_
  refine A4 (A3 (A2 ?_))
  refine A5 rfl rfl rfl rfl rfl ?_
  refine A5 rfl rfl rfl rfl rfl ?_
  refine A5 rfl rfl rfl rfl rfl ?_
  refine A1 rfl rfl rfl (I7 rfl E4 F5 (A0 rfl) (A0 rfl) hx (by first | omega | (simp only [A6, A7, B2, B7, A8, szR] at *; omega))) ?_
  refine A1 rfl rfl rfl (N6 rfl (A0 rfl) H1 rfl) ?_
  refine A1 rfl rfl rfl (y5 rfl (A0 rfl) (A0 rfl)) ?_
  refine A4 ?_
  refine C7 (A0 rfl) ?_ ?_
  ·intro h16
   refine A3 (A2 ?_)
   refine A5 rfl rfl rfl rfl rfl ?_
   refine B9 rfl rfl rfl rfl rfl ?_
   refine A4 ?_
   refine C8 ?_
   exact H9 rfl (C5 rfl (by first | exact congrArg AV.int (by rw [hinv.2, drop_some hx, idxFrom, h16]; rfl) | exact congrArg AV.int (by rw [hinv.2, List.drop_eq_nil_of_le hge]; rfl)))
  ·intro h16
   refine D2 (A2 ?_)
   refine A1 rfl rfl rfl (G7 rfl (A0 rfl) C4 (by first | omega | (simp only [A6, A7, B2, B7, A8, szR] at *; omega))) ?_
   refine A5 rfl rfl rfl rfl rfl ?_
   refine A4 ?_
   refine L4 i (i + 1) ?_ ?_ (J8 ⟨rfl, rfl, rfl, rfl, trivial⟩)
   ·exact ⟨by omega, by rw [hinv.2, drop_some hx, idxFrom, h16]; simp⟩
   ·omega
 ·intro h9
  have k9 := of_decide_eq_false h9; try simp only [A6] at k9
  have hge : l.length ≤ i := by omega
  refine H3 ?_
  refine A3 (A2 ?_)
  refine A1 rfl rfl rfl (C3 rfl C4) ?_
  refine A4 ?_
  refine C8 ?_
  exact H9 rfl (C5 rfl (by first | exact congrArg AV.int (by rw [hinv.2, drop_some hx, idxFrom, h16]; rfl) | exact congrArg AV.int (by rw [hinv.2, List.drop_eq_nil_of_le hge]; rfl)))
theorem AM2 (l : List Str) (v : Str) : FSpec Tryz.prog 279 [strs l, AV.str v] (AV.bool (l.any fun x => v == x)) := by
 refine E7 Tryz.func279 rfl Tryz.ntmps279 rfl ?_
 refine A3 (A2 ?_)
 refine A1 rfl rfl rfl (C3 rfl F4) ?_
 refine A4 (A3 (A2 ?_))
 refine A5 rfl rfl rfl rfl rfl ?_
 refine A5 rfl rfl rfl rfl rfl ?_
 refine A1 rfl rfl rfl (E5 rfl Tryz.call296 rfl (AV8 _ _) (A9 (A0 rfl) (A9 (A0 rfl) D1))) ?_
 refine A1 rfl rfl rfl (d6 rfl (A0 rfl) C4) ?_
 refine B9 rfl rfl rfl rfl rfl ?_
 refine A4 ?_
 refine C8 ?_
 exact H9 rfl (C5 rfl (by exact congrArg AV.bool (p3 (fun x => v == x) l 0 (Int.le_refl 0))))
theorem AY8 (l : List TWrite) (hl : l.length ≤ 4194304) : GSpec Tryz.prog 252 [AV.list 3 (l.map TWrite.cs)] [] (fun _ : Value => True) (fun v => [.arr v 77 3 (l.map TWrite.cs)]) (fun v => AV.is v) := by
 refine H5 Tryz.func252 rfl Tryz.ntmps252 rfl ?_
 refine l8 0 rfl ?_ ?_
 ·intro hnil
  have hn : l = [] := by cases l with | nil => rfl | cons x l => simp at hnil
  subst hn
  refine A3 (A2 ?_)
  refine Q5 77 3 rfl rfl rfl rfl K5 ?_
  intro v2
  refine A4 (A3 (A3 (A2 ?_)))
  refine A5 rfl rfl rfl rfl rfl ?_
  refine A1 rfl rfl rfl (AC6 rfl F3 (A0 rfl)) ?_
  refine A4 ?_
  refine C7 (A0 rfl) ?_ ?_
  ·intro h4
   refine A3 (A2 ?_)
   refine Q5 77 3 rfl rfl rfl rfl K5 ?_
   intro v2
   refine A4 ?_
   refine C8 ?_
   exact K1 [0] v2 (trivial) rfl (by rfl) (N1 rfl (C5 rfl (by first | rfl | (refine congrArg AV.bool ?_; simp_all; done))))
  ·intro h4
   cases h4
 ·skip
  refine A3 (A2 ?_)
  refine Q5 77 3 rfl rfl rfl rfl K5 ?_
  intro v2
  refine A4 (A3 (A3 (A2 ?_)))
  refine A5 rfl rfl rfl rfl rfl ?_
  refine A1 rfl rfl rfl (AC7 rfl F3 (A0 rfl)) ?_
  refine A4 ?_
  refine C7 (A0 rfl) ?_ ?_
  ·intro h4
   cases h4
  ·intro h4
   refine D2 (A3 (A2 ?_))
   refine S4 rfl rfl rfl rfl F3 H7 ?_
   intro v5
   refine A5 rfl rfl rfl rfl rfl ?_
   refine L5 (by' := 40) 0 rfl rfl rfl rfl F3 Tryz.type77 rfl rfl rfl rfl rfl rfl (A0 rfl) (p8 (A0 rfl) s3) rfl (by first | omega | (simp only [A6, A7, B2, B7, A8, szR] at *; omega)) ?_
   intro v7_1
   refine B9 rfl rfl rfl rfl rfl ?_
   refine A4 ?_
   refine C8 ?_
   exact K1 [0] v7_1 (trivial) rfl (by rfl) (N1 rfl (C5 rfl (by first | rfl | (refine congrArg AV.bool ?_; simp_all; done))))
theorem Ah5 (l : List TVer) (hl : l.length ≤ 4194304) : GSpec Tryz.prog 284 [AV.list 3 (l.map TVer.cs)] [] (fun _ : Value => True) (fun v => [.arr v 197 3 (l.map TVer.cs)]) (fun v => AV.is v) := by
 refine H5 Tryz.func284 rfl Tryz.ntmps284 rfl ?_
 refine l8 0 rfl ?_ ?_
 ·intro hnil
  have hn : l = [] := by cases l with | nil => rfl | cons x l => simp at hnil
  subst hn
  refine A3 (A2 ?_)
  refine Q5 197 3 rfl rfl rfl rfl K5 ?_
  intro v2
  refine A4 (A3 (A3 (A2 ?_)))
  refine A5 rfl rfl rfl rfl rfl ?_
  refine A1 rfl rfl rfl (AC6 rfl I5 (A0 rfl)) ?_
  refine A4 ?_
  refine C7 (A0 rfl) ?_ ?_
  ·intro h4
   refine A3 (A2 ?_)
   refine Q5 197 3 rfl rfl rfl rfl K5 ?_
   intro v2
   refine A4 ?_
   refine C8 ?_
   exact K1 [0] v2 (trivial) rfl (by rfl) (N1 rfl (C5 rfl (by first | rfl | (refine congrArg AV.bool ?_; simp_all; done))))
  ·intro h4
   cases h4
 ·skip
  refine A3 (A2 ?_)
  refine Q5 197 3 rfl rfl rfl rfl K5 ?_
  intro v2
  refine A4 (A3 (A3 (A2 ?_)))
  refine A5 rfl rfl rfl rfl rfl ?_
  refine A1 rfl rfl rfl (AC7 rfl I5 (A0 rfl)) ?_
  refine A4 ?_
  refine C7 (A0 rfl) ?_ ?_
  ·intro h4
   cases h4
  ·intro h4
   refine D2 (A3 (A2 ?_))
   refine S4 rfl rfl rfl rfl I5 N2 ?_
   intro v5
   refine A5 rfl rfl rfl rfl rfl ?_
   refine L5 (by' := 32) 0 rfl rfl rfl rfl I5 Tryz.type197 rfl rfl rfl rfl rfl rfl (A0 rfl) (p8 (A0 rfl) s3) rfl (by first | omega | (simp only [A6, A7, B2, B7, A8, szR] at *; omega)) ?_
   intro v7_1
   refine B9 rfl rfl rfl rfl rfl ?_
   refine A4 ?_
   refine C8 ?_
   exact K1 [0] v7_1 (trivial) rfl (by rfl) (N1 rfl (C5 rfl (by first | rfl | (refine congrArg AV.bool ?_; simp_all; done))))
theorem Ab7 (l : List TCell) (hl : l.length ≤ 4194304) : GSpec Tryz.prog 283 [AV.list 2 (l.map TCell.cs)] [] (fun _ : Value => True) (fun v => [.arr v 142 2 (l.map TCell.cs)]) (fun v => AV.is v) := by
 refine H5 Tryz.func283 rfl Tryz.ntmps283 rfl ?_
 refine l8 0 rfl ?_ ?_
 ·intro hnil
  have hn : l = [] := by cases l with | nil => rfl | cons x l => simp at hnil
  subst hn
  refine A3 (A2 ?_)
  refine Q5 142 2 rfl rfl rfl rfl K5 ?_
  intro v2
  refine A4 (A3 (A3 (A2 ?_)))
  refine A5 rfl rfl rfl rfl rfl ?_
  refine A1 rfl rfl rfl (AC6 rfl D8 (A0 rfl)) ?_
  refine A4 ?_
  refine C7 (A0 rfl) ?_ ?_
  ·intro h4
   refine A3 (A2 ?_)
   refine Q5 142 2 rfl rfl rfl rfl K5 ?_
   intro v2
   refine A4 ?_
   refine C8 ?_
   exact K1 [0] v2 (trivial) rfl (by rfl) (N1 rfl (C5 rfl (by first | rfl | (refine congrArg AV.bool ?_; simp_all; done))))
  ·intro h4
   cases h4
 ·skip
  refine A3 (A2 ?_)
  refine Q5 142 2 rfl rfl rfl rfl K5 ?_
  intro v2
  refine A4 (A3 (A3 (A2 ?_)))
  refine A5 rfl rfl rfl rfl rfl ?_
  refine A1 rfl rfl rfl (AC7 rfl D8 (A0 rfl)) ?_
  refine A4 ?_
  refine C7 (A0 rfl) ?_ ?_
  ·intro h4
   cases h4
  ·intro h4
   refine D2 (A3 (A2 ?_))
   refine S4 rfl rfl rfl rfl D8 F0 ?_
   intro v5
   refine A5 rfl rfl rfl rfl rfl ?_
   refine L5 (by' := 40) 0 rfl rfl rfl rfl D8 Tryz.type142 rfl rfl rfl rfl rfl rfl (A0 rfl) (p8 (A0 rfl) s3) rfl (by first | omega | (simp only [A6, A7, B2, B7, A8, szR] at *; omega)) ?_
   intro v7_1
   refine B9 rfl rfl rfl rfl rfl ?_
   refine A4 ?_
   refine C8 ?_
   exact K1 [0] v7_1 (trivial) rfl (by rfl) (N1 rfl (C5 rfl (by first | rfl | (refine congrArg AV.bool ?_; simp_all; done))))
theorem Ab8 (l : List THeld) (hl : l.length ≤ 4194304) : GSpec Tryz.prog 221 [AV.list 5 (l.map THeld.cs)] [] (fun _ : Value => True) (fun v => [.arr v 45 5 (l.map THeld.cs)]) (fun v => AV.is v) := by
 refine H5 Tryz.func221 rfl Tryz.ntmps221 rfl ?_
 refine l8 0 rfl ?_ ?_
 ·intro hnil
  have hn : l = [] := by cases l with | nil => rfl | cons x l => simp at hnil
  subst hn
  refine A3 (A2 ?_)
  refine Q5 45 5 rfl rfl rfl rfl K5 ?_
  intro v2
  refine A4 (A3 (A3 (A2 ?_)))
  refine A5 rfl rfl rfl rfl rfl ?_
  refine A1 rfl rfl rfl (AC6 rfl C9 (A0 rfl)) ?_
  refine A4 ?_
  refine C7 (A0 rfl) ?_ ?_
  ·intro h4
   refine A3 (A2 ?_)
   refine Q5 45 5 rfl rfl rfl rfl K5 ?_
   intro v2
   refine A4 ?_
   refine C8 ?_
   exact K1 [0] v2 (trivial) rfl (by rfl) (N1 rfl (C5 rfl (by first | rfl | (refine congrArg AV.bool ?_; simp_all; done))))
  ·intro h4
   cases h4
 ·skip
  refine A3 (A2 ?_)
  refine Q5 45 5 rfl rfl rfl rfl K5 ?_
  intro v2
  refine A4 (A3 (A3 (A2 ?_)))
  refine A5 rfl rfl rfl rfl rfl ?_
  refine A1 rfl rfl rfl (AC7 rfl C9 (A0 rfl)) ?_
  refine A4 ?_
  refine C7 (A0 rfl) ?_ ?_
  ·intro h4
   cases h4
  ·intro h4
   refine D2 (A3 (A2 ?_))
   refine S4 rfl rfl rfl rfl C9 D3 ?_
   intro v5
   refine A5 rfl rfl rfl rfl rfl ?_
   refine L5 (by' := 72) 0 rfl rfl rfl rfl C9 Tryz.type45 rfl rfl rfl rfl rfl rfl (A0 rfl) (p8 (A0 rfl) s3) rfl (by first | omega | (simp only [A6, A7, B2, B7, A8, szR] at *; omega)) ?_
   intro v7_1
   refine B9 rfl rfl rfl rfl rfl ?_
   refine A4 ?_
   refine C8 ?_
   exact K1 [0] v7_1 (trivial) rfl (by rfl) (N1 rfl (C5 rfl (by first | rfl | (refine congrArg AV.bool ?_; simp_all; done))))
theorem AH7 (l : List TTold) (hl : l.length ≤ 4194304) : GSpec Tryz.prog 254 [AV.list 3 (l.map TTold.cs)] [] (fun _ : Value => True) (fun v => [.arr v 39 3 (l.map TTold.cs)]) (fun v => AV.is v) := by
 refine H5 Tryz.func254 rfl Tryz.ntmps254 rfl ?_
 refine l8 0 rfl ?_ ?_
 ·intro hnil
  have hn : l = [] := by cases l with | nil => rfl | cons x l => simp at hnil
  subst hn
  refine A3 (A2 ?_)
  refine Q5 39 3 rfl rfl rfl rfl K5 ?_
  intro v2
  refine A4 (A3 (A3 (A2 ?_)))
  refine A5 rfl rfl rfl rfl rfl ?_
  refine A1 rfl rfl rfl (AC6 rfl E3 (A0 rfl)) ?_
  refine A4 ?_
  refine C7 (A0 rfl) ?_ ?_
  ·intro h4
   refine A3 (A2 ?_)
   refine Q5 39 3 rfl rfl rfl rfl K5 ?_
   intro v2
   refine A4 ?_
   refine C8 ?_
   exact K1 [0] v2 (trivial) rfl (by rfl) (N1 rfl (C5 rfl (by first | rfl | (refine congrArg AV.bool ?_; simp_all; done))))
  ·intro h4
   cases h4
 ·skip
  refine A3 (A2 ?_)
  refine Q5 39 3 rfl rfl rfl rfl K5 ?_
  intro v2
  refine A4 (A3 (A3 (A2 ?_)))
  refine A5 rfl rfl rfl rfl rfl ?_
  refine A1 rfl rfl rfl (AC7 rfl E3 (A0 rfl)) ?_
  refine A4 ?_
  refine C7 (A0 rfl) ?_ ?_
  ·intro h4
   cases h4
  ·intro h4
   refine D2 (A3 (A2 ?_))
   refine S4 rfl rfl rfl rfl E3 H2 ?_
   intro v5
   refine A5 rfl rfl rfl rfl rfl ?_
   refine L5 (by' := 24) 0 rfl rfl rfl rfl E3 Tryz.type39 rfl rfl rfl rfl rfl rfl (A0 rfl) (p8 (A0 rfl) s3) rfl (by first | omega | (simp only [A6, A7, B2, B7, A8, szR] at *; omega)) ?_
   intro v7_1
   refine B9 rfl rfl rfl rfl rfl ?_
   refine A4 ?_
   refine C8 ?_
   exact K1 [0] v7_1 (trivial) rfl (by rfl) (N1 rfl (C5 rfl (by first | rfl | (refine congrArg AV.bool ?_; simp_all; done))))
theorem AV9 (l : List Str) (hl : l.length ≤ 4194304) : GSpec Tryz.prog 236 [strs l] [] (fun _ : Value => True) (fun v => [.arr v 9 1 (l.map (fun x => [AV.str x]))]) (fun v => AV.is v) := by
 refine H5 Tryz.func236 rfl Tryz.ntmps236 rfl ?_
 refine l8 0 rfl ?_ ?_
 ·intro hnil
  have hn : l = [] := by cases l with | nil => rfl | cons x l => simp at hnil
  subst hn
  refine A3 (A2 ?_)
  refine Q5 9 1 rfl rfl rfl rfl K5 ?_
  intro v2
  refine A4 (A3 (A3 (A2 ?_)))
  refine A5 rfl rfl rfl rfl rfl ?_
  refine A1 rfl rfl rfl (AC6 rfl E4 (A0 rfl)) ?_
  refine A4 ?_
  refine C7 (A0 rfl) ?_ ?_
  ·intro h4
   refine A3 (A2 ?_)
   refine Q5 9 1 rfl rfl rfl rfl K5 ?_
   intro v2
   refine A4 ?_
   refine C8 ?_
   exact K1 [0] v2 (trivial) rfl (by rfl) (N1 rfl (C5 rfl (by first | rfl | (refine congrArg AV.bool ?_; simp_all; done))))
  ·intro h4
   cases h4
 ·skip
  refine A3 (A2 ?_)
  refine Q5 9 1 rfl rfl rfl rfl K5 ?_
  intro v2
  refine A4 (A3 (A3 (A2 ?_)))
  refine A5 rfl rfl rfl rfl rfl ?_
  refine A1 rfl rfl rfl (AC7 rfl E4 (A0 rfl)) ?_
  refine A4 ?_
  refine C7 (A0 rfl) ?_ ?_
  ·intro h4
   cases h4
  ·intro h4
   refine D2 (A3 (A2 ?_))
   refine S4 rfl rfl rfl rfl E4 F5 ?_
   intro v5
   refine A5 rfl rfl rfl rfl rfl ?_
   refine L5 (by' := 16) 0 rfl rfl rfl rfl E4 Tryz.type9 rfl rfl rfl rfl rfl rfl (A0 rfl) (p8 (A0 rfl) s3) rfl (by first | omega | (simp only [A6, A7, B2, B7, A8, szR] at *; omega)) ?_
   intro v7_1
   refine B9 rfl rfl rfl rfl rfl ?_
   refine A4 ?_
   refine C8 ?_
   exact K1 [0] v7_1 (trivial) rfl (by rfl) (N1 rfl (C5 rfl (by first | rfl | (refine congrArg AV.bool ?_; simp_all; done))))
theorem Ab9 (v vv : Value) (l : List THeld) (x : THeld) (i : Nat) (hi : i ≤ l.length) (hl : l.length ≤ 4194304) : GSpec Tryz.prog 200 [AV.is v, AV.int i, AV.is vv] [.arr v 45 5 (l.map THeld.cs), .arr vv 45 5 [THeld.cs x]] (fun _ : Value => True) (fun v => [.arr v 45 5 ((l.take i ++ x :: l.drop i).map THeld.cs)]) (fun v => AV.is v) := by
 have hn : (l.map THeld.cs).length = l.length := A6 _
 have h1 : ([THeld.cs x] : List (List AV)).length = 1 := rfl
 have e28 : ((l.map THeld.cs).length : Int) + (([THeld.cs x] : List (List AV)).length : Int) = ((l.length + 1 : Nat) : Int) := by rw [hn, h1]; rfl
 have e49 : (i : Int) + (([THeld.cs x] : List (List AV)).length : Int) = ((i + 1 : Nat) : Int) := by rw [h1]; rfl
 have e39 : ((l.length + 1 : Nat) : Int) - (i : Int) = ((l.length + 1 - i : Nat) : Int) := by omega
 refine H5 Tryz.func200 rfl Tryz.ntmps200 rfl ?_
 refine f6 0 rfl ?_ ?_
 ·intro hv hes; subst hv
  have hl0 : l = [] := by cases l with | nil => rfl | cons y l => (simp at hes)
  subst hl0
  have hi0 : i = 0 := by simpa using hi
  subst hi0
  refine f6 1 rfl (fun _ h => by cases h) ?_
  intro gv cv hvv _ _
  subst hvv
  refine A3 (A2 ?_)
  refine A1 rfl rfl rfl (C3 rfl K5) ?_
  refine A4 (A3 (A2 ?_))
  refine A5 rfl rfl rfl rfl rfl ?_
  refine A5 rfl rfl rfl rfl rfl ?_
  refine A1 rfl rfl rfl (AQ9 0 rfl C9 D3 (A0 rfl) rfl (A0 rfl) (by first | omega | (simp only [A6, A7, B2, B7, A8, szR] at *; omega)) (by first | omega | (simp only [A6, A7, B2, B7, A8, szR] at *; omega))) ?_
  refine A4 (A3 (A2 ?_))
  refine A5 rfl rfl rfl rfl rfl ?_
  refine A1 rfl rfl rfl (l6 rfl C9 (A0 rfl)) ?_
  refine B9 rfl rfl rfl rfl rfl ?_
  refine A4 (A3 (A3 (A2 ?_)))
  refine A5 rfl rfl rfl rfl rfl ?_
  refine A1 rfl rfl rfl (M9 rfl (A0 rfl) C4) ?_
  refine A4 ?_
  refine C7 (A0 rfl) ?_ ?_
  ·intro h16
   have k16 := L3 h16; try simp only [A6] at k16
   rw [h1] at k16; omega
  ·intro h16
   have k16 := L2 h16; try simp only [A6] at k16
   refine D2 (A3 (A2 ?_))
   refine A5 rfl rfl rfl rfl rfl ?_
   refine A1 rfl rfl rfl (U9 0 rfl C9 (A0 rfl) rfl) ?_
   refine B9 rfl rfl rfl rfl rfl ?_
   refine A4 (A3 (A3 (A2 ?_)))
   refine A5 rfl rfl rfl rfl rfl ?_
   refine A5 rfl rfl rfl rfl rfl ?_
   refine A1 rfl rfl rfl (M9 rfl (A0 rfl) (A0 rfl)) ?_
   refine A4 ?_
   refine C7 (A0 rfl) ?_ ?_
   ·intro h22
    have k22 := L3 h22; try simp only [A6] at k22
    refine A3 (A2 ?_)
    refine A5 rfl rfl rfl rfl rfl ?_
    refine A5 rfl rfl rfl rfl rfl ?_
    refine n7 (by' := 72) 0 rfl rfl rfl rfl C9 Tryz.type45 rfl rfl rfl rfl rfl rfl (A0 rfl) (Z2 1 rfl (A0 rfl)) (by simp) rfl (by simp only [A6, B2, B7]; omega) ?_
    intro v25
    refine B9 rfl rfl rfl rfl rfl ?_
    refine A4 ?_
    refine C8 ?_
    exact K1 [0] v25 (trivial) rfl (by exact congrArg (fun z => [Own.arr _ 45 5 z]) (by first | exact c5 hi (by simp) | exact Y6 (by omega) | (have hil : i = l.length := (by omega); subst hil; simp; done) | (simp; done))) (N1 rfl (C5 rfl (by first | rfl | (rw [hn]))))
   ·intro h22
    have k22 := L2 h22; try simp only [A6] at k22
    exact absurd rfl k22
 ·intro g cap hv hlc hcm; subst hv
  refine f6 1 rfl (fun _ h => by cases h) ?_
  intro gv cv hvv _ _
  subst hvv
  refine A3 (A2 ?_)
  refine A1 rfl rfl rfl (C3 rfl K5) ?_
  refine A4 (A3 (A2 ?_))
  refine A5 rfl rfl rfl rfl rfl ?_
  refine A5 rfl rfl rfl rfl rfl ?_
  refine A1 rfl rfl rfl (W4 rfl C9 D3 (A0 rfl) (A0 rfl) (by first | omega | (simp only [A6, A7, B2, B7, A8, szR] at *; omega)) (by first | omega | (simp only [A6, A7, B2, B7, A8, szR] at *; omega))) ?_
  refine A4 (A3 (A2 ?_))
  refine A5 rfl rfl rfl rfl rfl ?_
  refine A1 rfl rfl rfl (l6 rfl C9 (A0 rfl)) ?_
  refine B9 rfl rfl rfl rfl rfl ?_
  refine A4 (A3 (A3 (A2 ?_)))
  refine A5 rfl rfl rfl rfl rfl ?_
  refine A1 rfl rfl rfl (M9 rfl (A0 rfl) C4) ?_
  refine A4 ?_
  refine C7 (A0 rfl) ?_ ?_
  ·intro h16
   have k16 := L3 h16; try simp only [A6] at k16
   rw [h1] at k16; omega
  ·intro h16
   have k16 := L2 h16; try simp only [A6] at k16
   refine D2 (A3 (A2 ?_))
   refine A5 rfl rfl rfl rfl rfl ?_
   refine A1 rfl rfl rfl (l6 rfl C9 (A0 rfl)) ?_
   refine B9 rfl rfl rfl rfl rfl ?_
   refine A4 (A3 (A3 (A2 ?_)))
   refine A5 rfl rfl rfl rfl rfl ?_
   refine A5 rfl rfl rfl rfl rfl ?_
   refine A1 rfl rfl rfl (M9 rfl (A0 rfl) (A0 rfl)) ?_
   refine A4 ?_
   refine C7 (A0 rfl) ?_ ?_
   ·intro h22
    have k22 := L3 h22; try simp only [A6] at k22
    refine A3 (A2 ?_)
    refine A5 rfl rfl rfl rfl rfl ?_
    refine A5 rfl rfl rfl rfl rfl ?_
    refine n7 (by' := 72) 0 rfl rfl rfl rfl C9 Tryz.type45 rfl rfl rfl rfl rfl rfl (A0 rfl) (Z2 1 rfl (A0 rfl)) (by simp) rfl (by simp only [A6, B2, B7]; omega) ?_
    intro v25
    refine B9 rfl rfl rfl rfl rfl ?_
    refine A4 ?_
    refine C8 ?_
    exact K1 [0] v25 (trivial) rfl (by exact congrArg (fun z => [Own.arr _ 45 5 z]) (by first | exact c5 hi (by simp) | exact Y6 (by omega) | (have hil : i = l.length := (by omega); subst hil; simp; done) | (simp; done))) (N1 rfl (C5 rfl (by first | rfl | (rw [hn]))))
   ·intro h22
    have k22 := L2 h22; try simp only [A6] at k22
    refine D2 (A3 (A3 (A2 ?_)))
    refine A5 rfl rfl rfl rfl rfl ?_
    refine A5 rfl rfl rfl rfl rfl ?_
    refine A1 rfl rfl rfl (G7 rfl (A0 rfl) (A0 rfl) (by first | omega | (simp only [A6, A7, B2, B7, A8, szR] at *; omega))) ?_
    rw [e28]
    refine A5 rfl rfl rfl rfl rfl ?_
    refine A1 rfl rfl rfl (Ak4 rfl C9 (A0 rfl)) ?_
    refine A1 rfl rfl rfl (P8 rfl (A0 rfl) (A0 rfl)) ?_
    refine A4 ?_
    refine C7 (A0 rfl) ?_ ?_
    ·intro h31
     have k31 := of_decide_eq_true h31; try simp only [A6] at k31
     refine A3 (A2 ?_)
     refine A5 rfl rfl rfl rfl rfl ?_
     refine A5 rfl rfl rfl rfl rfl ?_
     refine A1 rfl rfl rfl (AJ2 rfl C9 D3 (A0 rfl) (A0 rfl) (by omega) (by rw [hn] at hlc; omega)) ?_
     refine A5 rfl rfl rfl rfl rfl ?_
     refine A5 rfl rfl rfl rfl rfl ?_
     refine A1 rfl rfl rfl (G7 rfl (A0 rfl) (A0 rfl) (by first | omega | (simp only [A6, A7, B2, B7, A8, szR] at *; omega))) ?_
     rw [e28]
     refine A5 rfl rfl rfl rfl rfl ?_
     refine A1 rfl rfl rfl (Q0 rfl (A0 rfl) (A0 rfl) (by first | omega | (simp only [A6, A7, B2, B7, A8, szR] at *; omega))) ?_
     rw [e39, Int.toNat_natCast]
     refine AJ3 (by' := 72) (j := i) (m := l.length + 1 - i) 0 rfl rfl rfl rfl C9 Q6 Tryz.type45 rfl rfl rfl rfl rfl rfl (A0 rfl) (A0 rfl) rfl (by rw [hn]; exact hi) (by omega) (by omega) (by omega) (by omega) ?_
     intro g2 cap2 hcap2
     refine B9 rfl rfl rfl rfl rfl ?_
     refine A4 (A3 (A2 ?_))
     refine A5 rfl rfl rfl rfl rfl ?_
     refine A5 rfl rfl rfl rfl rfl ?_
     refine A1 rfl rfl rfl (W4 rfl C9 D3 (A0 rfl) (A0 rfl) (by first | omega | (simp only [A6, A7, B2, B7, A8, szR] at *; omega)) (by first | omega | (simp only [A6, A7, B2, B7, A8, szR] at *; omega))) ?_
     refine A5 rfl rfl rfl rfl rfl ?_
     rw [Int.toNat_natCast]
     refine n6 (k := i) 0 rfl rfl rfl rfl C9 Tryz.type45 rfl (A0 rfl) (Z2 2 rfl (A0 rfl)) rfl (by rw [h1]; omega) (by rw [h1]; omega) hcap2 (by simp) ?_
     refine A4 (A3 ?_)
     refine P9 8 (by kernel_rfl) (by kernel_rfl) rfl ?_
     refine B5 rfl rfl (C6 rfl (A0 rfl)) ?_
     refine B5 rfl rfl (C6 rfl (A0 rfl)) ?_
     refine B5 rfl rfl (C6 rfl (A0 rfl)) ?_
     refine B5 rfl rfl (G7 rfl (A0 rfl) (A0 rfl) (by first | omega | (simp only [A6, A7, B2, B7, A8, szR] at *; omega))) ?_
     rw [e49]
     refine B5 rfl rfl (W4 rfl C9 D3 (A0 rfl) (A0 rfl) (by first | omega | (simp only [A6, A7, B2, B7, A8, szR] at *; omega)) (by first | omega | (simp only [A6, A7, B2, B7, A8, szR] at *; omega))) ?_
     refine B5 rfl rfl (C6 rfl (A0 rfl)) ?_
     refine B5 rfl rfl (C6 rfl (A0 rfl)) ?_
     refine B5 rfl rfl (W4 rfl C9 D3 (A0 rfl) (A0 rfl) (by first | omega | (simp only [A6, A7, B2, B7, A8, szR] at *; omega)) (by first | omega | (simp only [A6, A7, B2, B7, A8, szR] at *; omega))) ?_
     refine O1 ?_
     simp only [Int.toNat_natCast]
     refine n6 (k := i + 1) 0 rfl rfl rfl rfl C9 Tryz.type45 rfl (A0 rfl) (AR0 1 rfl (A0 rfl)) rfl (by rw [List.length_drop, hn]; omega) (by rw [List.length_drop, hn]; omega) hcap2 (by intro h; have := congrArg List.length h; rw [List.length_drop, hn] at this; simp at this; omega) ?_
     refine A4 (A3 (A2 ?_))
     refine A5 rfl rfl rfl rfl rfl ?_
     refine B9 rfl rfl rfl rfl rfl ?_
     refine A4 ?_
     refine C8 ?_
     exact K1 [0] (slv g2 (i + (l.length + 1 - i)) cap2) (trivial) rfl (by exact congrArg (fun z => [Own.arr _ 45 5 z]) (by first | exact c5 hi (by simp) | exact Y6 (by omega) | (have hil : i = l.length := (by omega); subst hil; simp; done) | (simp; done))) (N1 rfl (C5 rfl (by first | rfl | (rw [hn]))))
    ·intro h31
     have k31 := of_decide_eq_false h31; try simp only [A6] at k31
     refine D2 (A3 (A2 ?_))
     refine A5 rfl rfl rfl rfl rfl ?_
     refine A5 rfl rfl rfl rfl rfl ?_
     refine A5 rfl rfl rfl rfl rfl ?_
     refine A1 rfl rfl rfl (G7 rfl (A0 rfl) (A0 rfl) (by first | omega | (simp only [A6, A7, B2, B7, A8, szR] at *; omega))) ?_
     rw [e28]
     refine A1 rfl rfl rfl (AJ2 rfl C9 D3 (A0 rfl) (A0 rfl) (by first | omega | (simp only [A6, A7, B2, B7, A8, szR] at *; omega)) (by first | omega | (simp only [A6, A7, B2, B7, A8, szR] at *; omega))) ?_
     rw [Int.toNat_natCast]
     refine B9 rfl rfl rfl rfl rfl ?_
     refine A4 (A3 (A3 (A2 ?_)))
     refine A5 rfl rfl rfl rfl rfl ?_
     refine A5 rfl rfl rfl rfl rfl ?_
     refine A5 rfl rfl rfl rfl rfl ?_
     refine A5 rfl rfl rfl rfl rfl ?_
     refine A1 rfl rfl rfl (G7 rfl (A0 rfl) (A0 rfl) (by first | omega | (simp only [A6, A7, B2, B7, A8, szR] at *; omega))) ?_
     rw [e49]
     refine A1 rfl rfl rfl (W4 rfl C9 D3 (A0 rfl) (A0 rfl) (by first | omega | (simp only [A6, A7, B2, B7, A8, szR] at *; omega)) (by first | omega | (simp only [A6, A7, B2, B7, A8, szR] at *; omega))) ?_
     rw [Int.toNat_natCast]
     refine A1 rfl rfl rfl (AF6 (tb := 4) 1 0 rfl Tryz.func258 (by kernel_rfl) (by kernel_rfl) (by kernel_rfl) (by kernel_rfl) C9 D3 (A0 rfl) (A0 rfl) rfl rfl rfl (by omega) rfl) ?_
     refine A1 rfl rfl rfl (M2 rfl (A0 rfl)) ?_
     refine A4 ?_
     refine C7 (A0 rfl) ?_ ?_
     ·intro h68
      refine A3 ?_
      refine P9 8 (by kernel_rfl) (by kernel_rfl) rfl ?_
      refine B5 rfl rfl (C6 rfl (A0 rfl)) ?_
      refine B5 rfl rfl (C6 rfl (A0 rfl)) ?_
      refine B5 rfl rfl (C6 rfl (A0 rfl)) ?_
      refine B5 rfl rfl (G7 rfl (A0 rfl) (A0 rfl) (by first | omega | (simp only [A6, A7, B2, B7, A8, szR] at *; omega))) ?_
      rw [e49]
      refine B5 rfl rfl (W4 rfl C9 D3 (A0 rfl) (A0 rfl) (by first | omega | (simp only [A6, A7, B2, B7, A8, szR] at *; omega)) (by first | omega | (simp only [A6, A7, B2, B7, A8, szR] at *; omega))) ?_
      refine B5 rfl rfl (C6 rfl (A0 rfl)) ?_
      refine B5 rfl rfl (C6 rfl (A0 rfl)) ?_
      refine B5 rfl rfl (W4 rfl C9 D3 (A0 rfl) (A0 rfl) (by first | omega | (simp only [A6, A7, B2, B7, A8, szR] at *; omega)) (by first | omega | (simp only [A6, A7, B2, B7, A8, szR] at *; omega))) ?_
      refine O1 ?_
      simp only [Int.toNat_natCast]
      refine AV1 (k := i) (len := (l.map THeld.cs).length) 0 rfl rfl rfl rfl C9 Tryz.type45 rfl (by rw [hn]; exact A0 rfl) (by rw [hn]; exact A0 rfl) rfl (by omega) (by omega) ?_
      intro j77
      refine A4 (A3 (A2 ?_))
      refine A5 rfl rfl rfl rfl rfl ?_
      refine A5 rfl rfl rfl rfl rfl ?_
      refine A1 rfl rfl rfl (W4 rfl C9 D3 (A0 rfl) (A0 rfl) (by first | omega | (simp only [A6, A7, B2, B7, A8, szR] at *; omega)) (by first | omega | (simp only [A6, A7, B2, B7, A8, szR] at *; omega))) ?_
      refine A5 rfl rfl rfl rfl rfl ?_
      rw [Int.toNat_natCast]
      refine n6 (k := i) 0 rfl rfl rfl rfl C9 Tryz.type45 rfl (A0 rfl) (Z2 1 rfl (A0 rfl)) rfl (by rw [h1, hn]; omega) (by rw [h1]; omega) (by omega) (by simp) ?_
      refine A4 (A3 (A2 ?_))
      refine A5 rfl rfl rfl rfl rfl ?_
      refine B9 rfl rfl rfl rfl rfl ?_
      refine A4 ?_
      refine C8 ?_
      exact K1 [0] (slv g ((l.map THeld.cs).length + 1) cap) (trivial) rfl (by exact congrArg (fun z => [Own.arr _ 45 5 z]) (by first | exact c5 hi (by simp) | exact Y6 (by omega) | (have hil : i = l.length := (by omega); subst hil; simp; done) | (simp; done))) (N1 rfl (C5 rfl (by first | rfl | (rw [hn]))))
     ·intro h68
      cases h68
theorem o5 (v vv : Value) (l : List TTold) (x : TTold) (i : Nat) (hi : i ≤ l.length) (hl : l.length ≤ 4194304) : GSpec Tryz.prog 257 [AV.is v, AV.int i, AV.is vv] [.arr v 39 3 (l.map TTold.cs), .arr vv 39 3 [TTold.cs x]] (fun _ : Value => True) (fun v => [.arr v 39 3 ((l.take i ++ x :: l.drop i).map TTold.cs)]) (fun v => AV.is v) := by
 have hn : (l.map TTold.cs).length = l.length := A6 _
 have h1 : ([TTold.cs x] : List (List AV)).length = 1 := rfl
 have e28 : ((l.map TTold.cs).length : Int) + (([TTold.cs x] : List (List AV)).length : Int) = ((l.length + 1 : Nat) : Int) := by rw [hn, h1]; rfl
 have e49 : (i : Int) + (([TTold.cs x] : List (List AV)).length : Int) = ((i + 1 : Nat) : Int) := by rw [h1]; rfl
 have e39 : ((l.length + 1 : Nat) : Int) - (i : Int) = ((l.length + 1 - i : Nat) : Int) := by omega
 refine H5 Tryz.func257 rfl Tryz.ntmps257 rfl ?_
 refine f6 0 rfl ?_ ?_
 ·intro hv hes; subst hv
  have hl0 : l = [] := by cases l with | nil => rfl | cons y l => (simp at hes)
  subst hl0
  have hi0 : i = 0 := by simpa using hi
  subst hi0
  refine f6 1 rfl (fun _ h => by cases h) ?_
  intro gv cv hvv _ _
  subst hvv
  refine A3 (A2 ?_)
  refine A1 rfl rfl rfl (C3 rfl K5) ?_
  refine A4 (A3 (A2 ?_))
  refine A5 rfl rfl rfl rfl rfl ?_
  refine A5 rfl rfl rfl rfl rfl ?_
  refine A1 rfl rfl rfl (AQ9 0 rfl E3 H2 (A0 rfl) rfl (A0 rfl) (by first | omega | (simp only [A6, A7, B2, B7, A8, szR] at *; omega)) (by first | omega | (simp only [A6, A7, B2, B7, A8, szR] at *; omega))) ?_
  refine A4 (A3 (A2 ?_))
  refine A5 rfl rfl rfl rfl rfl ?_
  refine A1 rfl rfl rfl (l6 rfl E3 (A0 rfl)) ?_
  refine B9 rfl rfl rfl rfl rfl ?_
  refine A4 (A3 (A3 (A2 ?_)))
  refine A5 rfl rfl rfl rfl rfl ?_
  refine A1 rfl rfl rfl (M9 rfl (A0 rfl) C4) ?_
  refine A4 ?_
  refine C7 (A0 rfl) ?_ ?_
  ·intro h16
   have k16 := L3 h16; try simp only [A6] at k16
   rw [h1] at k16; omega
  ·intro h16
   have k16 := L2 h16; try simp only [A6] at k16
   refine D2 (A3 (A2 ?_))
   refine A5 rfl rfl rfl rfl rfl ?_
   refine A1 rfl rfl rfl (U9 0 rfl E3 (A0 rfl) rfl) ?_
   refine B9 rfl rfl rfl rfl rfl ?_
   refine A4 (A3 (A3 (A2 ?_)))
   refine A5 rfl rfl rfl rfl rfl ?_
   refine A5 rfl rfl rfl rfl rfl ?_
   refine A1 rfl rfl rfl (M9 rfl (A0 rfl) (A0 rfl)) ?_
   refine A4 ?_
   refine C7 (A0 rfl) ?_ ?_
   ·intro h22
    have k22 := L3 h22; try simp only [A6] at k22
    refine A3 (A2 ?_)
    refine A5 rfl rfl rfl rfl rfl ?_
    refine A5 rfl rfl rfl rfl rfl ?_
    refine n7 (by' := 24) 0 rfl rfl rfl rfl E3 Tryz.type39 rfl rfl rfl rfl rfl rfl (A0 rfl) (Z2 1 rfl (A0 rfl)) (by simp) rfl (by simp only [A6, B2, B7]; omega) ?_
    intro v25
    refine B9 rfl rfl rfl rfl rfl ?_
    refine A4 ?_
    refine C8 ?_
    exact K1 [0] v25 (trivial) rfl (by exact congrArg (fun z => [Own.arr _ 39 3 z]) (by first | exact c5 hi (by simp) | exact Y6 (by omega) | (have hil : i = l.length := (by omega); subst hil; simp; done) | (simp; done))) (N1 rfl (C5 rfl (by first | rfl | (rw [hn]))))
   ·intro h22
    have k22 := L2 h22; try simp only [A6] at k22
    exact absurd rfl k22
 ·intro g cap hv hlc hcm; subst hv
  refine f6 1 rfl (fun _ h => by cases h) ?_
  intro gv cv hvv _ _
  subst hvv
  refine A3 (A2 ?_)
  refine A1 rfl rfl rfl (C3 rfl K5) ?_
  refine A4 (A3 (A2 ?_))
  refine A5 rfl rfl rfl rfl rfl ?_
  refine A5 rfl rfl rfl rfl rfl ?_
  refine A1 rfl rfl rfl (W4 rfl E3 H2 (A0 rfl) (A0 rfl) (by first | omega | (simp only [A6, A7, B2, B7, A8, szR] at *; omega)) (by first | omega | (simp only [A6, A7, B2, B7, A8, szR] at *; omega))) ?_
  refine A4 (A3 (A2 ?_))
  refine A5 rfl rfl rfl rfl rfl ?_
  refine A1 rfl rfl rfl (l6 rfl E3 (A0 rfl)) ?_
  refine B9 rfl rfl rfl rfl rfl ?_
  refine A4 (A3 (A3 (A2 ?_)))
  refine A5 rfl rfl rfl rfl rfl ?_
  refine A1 rfl rfl rfl (M9 rfl (A0 rfl) C4) ?_
  refine A4 ?_
  refine C7 (A0 rfl) ?_ ?_
  ·intro h16
   have k16 := L3 h16; try simp only [A6] at k16
   rw [h1] at k16; omega
  ·intro h16
   have k16 := L2 h16; try simp only [A6] at k16
   refine D2 (A3 (A2 ?_))
   refine A5 rfl rfl rfl rfl rfl ?_
   refine A1 rfl rfl rfl (l6 rfl E3 (A0 rfl)) ?_
   refine B9 rfl rfl rfl rfl rfl ?_
   refine A4 (A3 (A3 (A2 ?_)))
   refine A5 rfl rfl rfl rfl rfl ?_
   refine A5 rfl rfl rfl rfl rfl ?_
   refine A1 rfl rfl rfl (M9 rfl (A0 rfl) (A0 rfl)) ?_
   refine A4 ?_
   refine C7 (A0 rfl) ?_ ?_
   ·intro h22
    have k22 := L3 h22; try simp only [A6] at k22
    refine A3 (A2 ?_)
    refine A5 rfl rfl rfl rfl rfl ?_
    refine A5 rfl rfl rfl rfl rfl ?_
    refine n7 (by' := 24) 0 rfl rfl rfl rfl E3 Tryz.type39 rfl rfl rfl rfl rfl rfl (A0 rfl) (Z2 1 rfl (A0 rfl)) (by simp) rfl (by simp only [A6, B2, B7]; omega) ?_
    intro v25
    refine B9 rfl rfl rfl rfl rfl ?_
    refine A4 ?_
    refine C8 ?_
    exact K1 [0] v25 (trivial) rfl (by exact congrArg (fun z => [Own.arr _ 39 3 z]) (by first | exact c5 hi (by simp) | exact Y6 (by omega) | (have hil : i = l.length := (by omega); subst hil; simp; done) | (simp; done))) (N1 rfl (C5 rfl (by first | rfl | (rw [hn]))))
   ·intro h22
    have k22 := L2 h22; try simp only [A6] at k22
    refine D2 (A3 (A3 (A2 ?_)))
    refine A5 rfl rfl rfl rfl rfl ?_
    refine A5 rfl rfl rfl rfl rfl ?_
    refine A1 rfl rfl rfl (G7 rfl (A0 rfl) (A0 rfl) (by first | omega | (simp only [A6, A7, B2, B7, A8, szR] at *; omega))) ?_
    rw [e28]
    refine A5 rfl rfl rfl rfl rfl ?_
    refine A1 rfl rfl rfl (Ak4 rfl E3 (A0 rfl)) ?_
    refine A1 rfl rfl rfl (P8 rfl (A0 rfl) (A0 rfl)) ?_
    refine A4 ?_
    refine C7 (A0 rfl) ?_ ?_
    ·intro h31
     have k31 := of_decide_eq_true h31; try simp only [A6] at k31
     refine A3 (A2 ?_)
     refine A5 rfl rfl rfl rfl rfl ?_
     refine A5 rfl rfl rfl rfl rfl ?_
     refine A1 rfl rfl rfl (AJ2 rfl E3 H2 (A0 rfl) (A0 rfl) (by omega) (by rw [hn] at hlc; omega)) ?_
     refine A5 rfl rfl rfl rfl rfl ?_
     refine A5 rfl rfl rfl rfl rfl ?_
     refine A1 rfl rfl rfl (G7 rfl (A0 rfl) (A0 rfl) (by first | omega | (simp only [A6, A7, B2, B7, A8, szR] at *; omega))) ?_
     rw [e28]
     refine A5 rfl rfl rfl rfl rfl ?_
     refine A1 rfl rfl rfl (Q0 rfl (A0 rfl) (A0 rfl) (by first | omega | (simp only [A6, A7, B2, B7, A8, szR] at *; omega))) ?_
     rw [e39, Int.toNat_natCast]
     refine AJ3 (by' := 24) (j := i) (m := l.length + 1 - i) 0 rfl rfl rfl rfl E3 Q6 Tryz.type39 rfl rfl rfl rfl rfl rfl (A0 rfl) (A0 rfl) rfl (by rw [hn]; exact hi) (by omega) (by omega) (by omega) (by omega) ?_
     intro g2 cap2 hcap2
     refine B9 rfl rfl rfl rfl rfl ?_
     refine A4 (A3 (A2 ?_))
     refine A5 rfl rfl rfl rfl rfl ?_
     refine A5 rfl rfl rfl rfl rfl ?_
     refine A1 rfl rfl rfl (W4 rfl E3 H2 (A0 rfl) (A0 rfl) (by first | omega | (simp only [A6, A7, B2, B7, A8, szR] at *; omega)) (by first | omega | (simp only [A6, A7, B2, B7, A8, szR] at *; omega))) ?_
     refine A5 rfl rfl rfl rfl rfl ?_
     rw [Int.toNat_natCast]
     refine n6 (k := i) 0 rfl rfl rfl rfl E3 Tryz.type39 rfl (A0 rfl) (Z2 2 rfl (A0 rfl)) rfl (by rw [h1]; omega) (by rw [h1]; omega) hcap2 (by simp) ?_
     refine A4 (A3 ?_)
     refine P9 8 (by kernel_rfl) (by kernel_rfl) rfl ?_
     refine B5 rfl rfl (C6 rfl (A0 rfl)) ?_
     refine B5 rfl rfl (C6 rfl (A0 rfl)) ?_
     refine B5 rfl rfl (C6 rfl (A0 rfl)) ?_
     refine B5 rfl rfl (G7 rfl (A0 rfl) (A0 rfl) (by first | omega | (simp only [A6, A7, B2, B7, A8, szR] at *; omega))) ?_
     rw [e49]
     refine B5 rfl rfl (W4 rfl E3 H2 (A0 rfl) (A0 rfl) (by first | omega | (simp only [A6, A7, B2, B7, A8, szR] at *; omega)) (by first | omega | (simp only [A6, A7, B2, B7, A8, szR] at *; omega))) ?_
     refine B5 rfl rfl (C6 rfl (A0 rfl)) ?_
     refine B5 rfl rfl (C6 rfl (A0 rfl)) ?_
     refine B5 rfl rfl (W4 rfl E3 H2 (A0 rfl) (A0 rfl) (by first | omega | (simp only [A6, A7, B2, B7, A8, szR] at *; omega)) (by first | omega | (simp only [A6, A7, B2, B7, A8, szR] at *; omega))) ?_
     refine O1 ?_
     simp only [Int.toNat_natCast]
     refine n6 (k := i + 1) 0 rfl rfl rfl rfl E3 Tryz.type39 rfl (A0 rfl) (AR0 1 rfl (A0 rfl)) rfl (by rw [List.length_drop, hn]; omega) (by rw [List.length_drop, hn]; omega) hcap2 (by intro h; have := congrArg List.length h; rw [List.length_drop, hn] at this; simp at this; omega) ?_
     refine A4 (A3 (A2 ?_))
     refine A5 rfl rfl rfl rfl rfl ?_
     refine B9 rfl rfl rfl rfl rfl ?_
     refine A4 ?_
     refine C8 ?_
     exact K1 [0] (slv g2 (i + (l.length + 1 - i)) cap2) (trivial) rfl (by exact congrArg (fun z => [Own.arr _ 39 3 z]) (by first | exact c5 hi (by simp) | exact Y6 (by omega) | (have hil : i = l.length := (by omega); subst hil; simp; done) | (simp; done))) (N1 rfl (C5 rfl (by first | rfl | (rw [hn]))))
    ·intro h31
     have k31 := of_decide_eq_false h31; try simp only [A6] at k31
     refine D2 (A3 (A2 ?_))
     refine A5 rfl rfl rfl rfl rfl ?_
     refine A5 rfl rfl rfl rfl rfl ?_
     refine A5 rfl rfl rfl rfl rfl ?_
     refine A1 rfl rfl rfl (G7 rfl (A0 rfl) (A0 rfl) (by first | omega | (simp only [A6, A7, B2, B7, A8, szR] at *; omega))) ?_
     rw [e28]
     refine A1 rfl rfl rfl (AJ2 rfl E3 H2 (A0 rfl) (A0 rfl) (by first | omega | (simp only [A6, A7, B2, B7, A8, szR] at *; omega)) (by first | omega | (simp only [A6, A7, B2, B7, A8, szR] at *; omega))) ?_
     rw [Int.toNat_natCast]
     refine B9 rfl rfl rfl rfl rfl ?_
     refine A4 (A3 (A3 (A2 ?_)))
     refine A5 rfl rfl rfl rfl rfl ?_
     refine A5 rfl rfl rfl rfl rfl ?_
     refine A5 rfl rfl rfl rfl rfl ?_
     refine A5 rfl rfl rfl rfl rfl ?_
     refine A1 rfl rfl rfl (G7 rfl (A0 rfl) (A0 rfl) (by first | omega | (simp only [A6, A7, B2, B7, A8, szR] at *; omega))) ?_
     rw [e49]
     refine A1 rfl rfl rfl (W4 rfl E3 H2 (A0 rfl) (A0 rfl) (by first | omega | (simp only [A6, A7, B2, B7, A8, szR] at *; omega)) (by first | omega | (simp only [A6, A7, B2, B7, A8, szR] at *; omega))) ?_
     rw [Int.toNat_natCast]
     refine A1 rfl rfl rfl (AF6 (tb := 4) 1 0 rfl Tryz.func286 (by kernel_rfl) (by kernel_rfl) (by kernel_rfl) (by kernel_rfl) E3 H2 (A0 rfl) (A0 rfl) rfl rfl rfl (by omega) rfl) ?_
     refine A1 rfl rfl rfl (M2 rfl (A0 rfl)) ?_
     refine A4 ?_
     refine C7 (A0 rfl) ?_ ?_
     ·intro h68
      refine A3 ?_
      refine P9 8 (by kernel_rfl) (by kernel_rfl) rfl ?_
      refine B5 rfl rfl (C6 rfl (A0 rfl)) ?_
      refine B5 rfl rfl (C6 rfl (A0 rfl)) ?_
      refine B5 rfl rfl (C6 rfl (A0 rfl)) ?_
      refine B5 rfl rfl (G7 rfl (A0 rfl) (A0 rfl) (by first | omega | (simp only [A6, A7, B2, B7, A8, szR] at *; omega))) ?_
      rw [e49]
      refine B5 rfl rfl (W4 rfl E3 H2 (A0 rfl) (A0 rfl) (by first | omega | (simp only [A6, A7, B2, B7, A8, szR] at *; omega)) (by first | omega | (simp only [A6, A7, B2, B7, A8, szR] at *; omega))) ?_
      refine B5 rfl rfl (C6 rfl (A0 rfl)) ?_
      refine B5 rfl rfl (C6 rfl (A0 rfl)) ?_
      refine B5 rfl rfl (W4 rfl E3 H2 (A0 rfl) (A0 rfl) (by first | omega | (simp only [A6, A7, B2, B7, A8, szR] at *; omega)) (by first | omega | (simp only [A6, A7, B2, B7, A8, szR] at *; omega))) ?_
      refine O1 ?_
      simp only [Int.toNat_natCast]
      refine AV1 (k := i) (len := (l.map TTold.cs).length) 0 rfl rfl rfl rfl E3 Tryz.type39 rfl (by rw [hn]; exact A0 rfl) (by rw [hn]; exact A0 rfl) rfl (by omega) (by omega) ?_
      intro j77
      refine A4 (A3 (A2 ?_))
      refine A5 rfl rfl rfl rfl rfl ?_
      refine A5 rfl rfl rfl rfl rfl ?_
      refine A1 rfl rfl rfl (W4 rfl E3 H2 (A0 rfl) (A0 rfl) (by first | omega | (simp only [A6, A7, B2, B7, A8, szR] at *; omega)) (by first | omega | (simp only [A6, A7, B2, B7, A8, szR] at *; omega))) ?_
      refine A5 rfl rfl rfl rfl rfl ?_
      rw [Int.toNat_natCast]
      refine n6 (k := i) 0 rfl rfl rfl rfl E3 Tryz.type39 rfl (A0 rfl) (Z2 1 rfl (A0 rfl)) rfl (by rw [h1, hn]; omega) (by rw [h1]; omega) (by omega) (by simp) ?_
      refine A4 (A3 (A2 ?_))
      refine A5 rfl rfl rfl rfl rfl ?_
      refine B9 rfl rfl rfl rfl rfl ?_
      refine A4 ?_
      refine C8 ?_
      exact K1 [0] (slv g ((l.map TTold.cs).length + 1) cap) (trivial) rfl (by exact congrArg (fun z => [Own.arr _ 39 3 z]) (by first | exact c5 hi (by simp) | exact Y6 (by omega) | (have hil : i = l.length := (by omega); subst hil; simp; done) | (simp; done))) (N1 rfl (C5 rfl (by first | rfl | (rw [hn]))))
     ·intro h68
      cases h68
theorem AH8 (v : Value) (l : List THeld) (i : Nat) (hi : i < l.length) (hl : l.length ≤ 4194304) : GSpec Tryz.prog 256 [AV.is v, AV.int i, AV.int ((i : Int) + 1)] [.arr v 45 5 (l.map THeld.cs)] (fun _ : Value => True) (fun v => [.arr v 45 5 ((l.eraseIdx i).map THeld.cs)]) (fun v => AV.is v) := by
 have hn : (l.map THeld.cs).length = l.length := A6 _
 refine H5 Tryz.func256 rfl Tryz.ntmps256 rfl ?_
 refine f6 0 rfl ?_ ?_
 ·intro hv hes; subst hv
  have h0 : l.length = 0 := (by rw [← hn, hes]; rfl); omega
 ·intro g cap hv hlc hcm; subst hv
  refine A3 (A2 ?_)
  refine A1 rfl rfl rfl (C3 rfl K5) ?_
  refine A4 (A3 (A2 ?_))
  refine A5 rfl rfl rfl rfl rfl ?_
  refine A5 rfl rfl rfl rfl rfl ?_
  refine A5 rfl rfl rfl rfl rfl ?_
  refine A5 rfl rfl rfl rfl rfl ?_
  refine A1 rfl rfl rfl (l6 rfl C9 (A0 rfl)) ?_
  refine A1 rfl rfl rfl (w_v3 rfl C9 D3 (A0 rfl) (A0 rfl) (A0 rfl) (A0 rfl) (by omega) (by omega) (by omega) (by omega)) ?_
  refine A4 (A3 (A3 (A2 ?_)))
  refine A5 rfl rfl rfl rfl rfl ?_
  refine A5 rfl rfl rfl rfl rfl ?_
  refine A1 rfl rfl rfl (M9 rfl (A0 rfl) (A0 rfl)) ?_
  refine A4 ?_
  refine C7 (A0 rfl) ?_ ?_
  ·intro h16
   have k16 := L3 h16; try simp only [A6] at k16
   omega
  ·intro h16
   have k16 := L2 h16; try simp only [A6] at k16
   refine D2 (A3 (A2 ?_))
   refine A5 rfl rfl rfl rfl rfl ?_
   refine A1 rfl rfl rfl (l6 rfl C9 (A0 rfl)) ?_
   refine B9 rfl rfl rfl rfl rfl ?_
   refine A4 (A3 ?_)
   refine P9 6 (by kernel_rfl) (by kernel_rfl) rfl ?_
   refine B5 rfl rfl (C6 rfl (A0 rfl)) ?_
   refine B5 rfl rfl (C6 rfl (A0 rfl)) ?_
   refine B5 rfl rfl (AJ2 rfl C9 D3 (A0 rfl) (A0 rfl) (by omega) (by omega)) ?_
   refine B5 rfl rfl (C6 rfl (A0 rfl)) ?_
   refine B5 rfl rfl (C6 rfl (A0 rfl)) ?_
   refine B5 rfl rfl (W4 rfl C9 D3 (A0 rfl) (A0 rfl) (by omega) (by omega)) ?_
   refine O1 ?_
   rw [show ((i : Int) + 1).toNat = i + 1 by omega, Int.toNat_natCast]
   refine Az4 (k := i) (j := i + 1) 0 rfl rfl rfl rfl C9 Tryz.type45 rfl (A0 rfl) (A0 rfl) rfl (by omega) (by omega) ?_
   refine B9 rfl rfl rfl rfl rfl ?_
   refine A4 (A3 (A2 ?_))
   refine A5 rfl rfl rfl rfl rfl ?_
   refine A5 rfl rfl rfl rfl rfl ?_
   refine A1 rfl rfl rfl (l6 rfl C9 (A0 rfl)) ?_
   refine A5 rfl rfl rfl rfl rfl ?_
   refine A1 rfl rfl rfl (w_vlohi rfl C9 D3 (A0 rfl) (A0 rfl) (A0 rfl) (by omega) (by omega) (by omega)) ?_
   simp only [Int.toNat_natCast]
   refine Az5 0 rfl rfl rfl C9 Tryz.zeroValue45 rfl rfl rfl (A0 rfl) rfl (by omega) (by omega) (by omega) ?_
   refine A4 (A3 (A2 ?_))
   refine A5 rfl rfl rfl rfl rfl ?_
   refine B9 rfl rfl rfl rfl rfl ?_
   refine A4 ?_
   refine C8 ?_
   exact K1 [0] (slv g (i + ((l.map THeld.cs).length - (i + 1))) cap) (trivial) rfl (by exact congrArg (fun z => [Own.arr _ 45 5 z]) (by simp [List.eraseIdx_eq_take_drop_succ, List.map_take, List.map_drop])) (N1 rfl (C5 rfl (by first | rfl | (refine congrArg AV.bool ?_; simp_all; done))))
end Go.Proofs.YtnlhbdkcgaeimaaGreat

set_option linter.unusedVariables false
set_option linter.unusedSimpArgs false
set_option maxRecDepth 100000
namespace Go.Proofs.YtnlhbdkcgaeimaaGreat
open Go Go.AV Go.M
attribute [local irreducible] OpW OpA OpS AWP FSpec ESpec RetOk RvDen Le Ev GuardIs
theorem m0 (t : Int) : FSpec Tryz.prog 134 [AV.int t] (AV.bool (isTime t)) := by
 refine E7 Tryz.func134 rfl Tryz.ntmps134 rfl ?_
 refine A3 (A2 ?_)
 refine A1 rfl rfl rfl (C3 rfl F4) ?_
 refine A4 (A3 (A2 ?_))
 refine A5 rfl rfl rfl rfl rfl ?_
 refine A1 rfl rfl rfl (E5 rfl Tryz.call94 rfl (g6 _ _ _) (A9 (A0 rfl) (A9 C4 (A9 C4 D1)))) ?_
 refine B9 rfl rfl rfl rfl rfl ?_
 refine A4 ?_
 refine C8 ?_
 exact H9 rfl (C5 rfl (by first | rfl | (refine congrArg AV.bool ?_; simp_all; done)))
theorem AL0 (s : Str) (g : Bool) (hs : s.length ≤ 4611686018427387904) : FSpec Tryz.prog 242 [AV.str s, AV.bool g] (AV.bool (isStored s g)) := by
 refine E7 Tryz.func242 rfl Tryz.ntmps242 rfl ?_
 refine A3 (A2 ?_)
 refine A1 rfl rfl rfl (C3 rfl F4) ?_
 refine A4 (A3 (A2 ?_))
 refine A5 rfl rfl rfl rfl rfl ?_
 refine A1 rfl rfl rfl (E5 rfl Tryz.call277 rfl (Am2 _ (by omega)) (A9 (A0 rfl) D1)) ?_
 refine A5 rfl rfl rfl rfl rfl ?_
 refine B4 rfl rfl (C2 rfl rfl rfl) (fun hc => C6 rfl (A0 rfl)) ?_
 refine B4 rfl rfl (C2 rfl rfl rfl) (fun hc => C6 rfl (B0 rfl hc)) ?_
 refine B4 rfl rfl (E8 rfl rfl rfl) (fun hc => C6 rfl (A0 rfl)) ?_
 refine B4 rfl rfl (E8 rfl rfl rfl) (fun hc => AM5 rfl (B0 rfl hc) (S1 (l := []) rfl)) ?_
 refine B4 rfl rfl (C2 rfl rfl rfl) (fun hc => I6 rfl (B0 rfl hc) (S0 rfl hc)) ?_
 refine B4 rfl rfl (C2 rfl rfl rfl) (fun hc => M2 rfl (B0 rfl hc)) ?_
 refine A1 rfl rfl rfl (I6 rfl (A0 rfl) (G4 rfl)) ?_
 refine B9 rfl rfl rfl rfl rfl ?_
 refine A4 ?_
 refine C8 ?_
 exact H9 rfl (C5 rfl (by first | rfl | (refine congrArg AV.bool ?_; simp_all; done)))
theorem Aw7 (s : Str) (hs : s.length ≤ 4611686018427387904) : FSpec Tryz.prog 276 [AV.str s] (AV.bool (l3Val s)) := by
 refine E7 Tryz.func276 rfl Tryz.ntmps276 rfl ?_
 refine A3 (A2 ?_)
 refine A1 rfl rfl rfl (C3 rfl F4) ?_
 refine A4 (A3 (A2 ?_))
 refine A5 rfl rfl rfl rfl rfl ?_
 refine A1 rfl rfl rfl (AD1 rfl N4 (A0 rfl)) ?_
 refine A1 rfl rfl rfl (U5 rfl (A0 rfl) C4) ?_
 refine A5 rfl rfl rfl rfl rfl ?_
 refine B4 rfl rfl (C2 rfl rfl rfl) (fun hc => C6 rfl (A0 rfl)) ?_
 refine B4 rfl rfl (C2 rfl rfl rfl) (fun hc => E5 rfl Tryz.call217 rfl (AO6 _ _ (by omega) (by decide)) (A9 (B0 rfl hc) (A9 (S1 (l := [46, 45, 44, 95]) rfl) D1))) ?_
 refine A1 rfl rfl rfl (I6 rfl (A0 rfl) (G4 rfl)) ?_
 refine B9 rfl rfl rfl rfl rfl ?_
 refine A4 ?_
 refine C8 ?_
 exact H9 rfl (C5 rfl (by first | rfl | (refine congrArg AV.bool ?_; simp_all; done)))
theorem AO9 (k s : Str) (g : Bool) (hk : k.length ≤ 4611686018427387904) (hs : s.length ≤ 4611686018427387904) : FSpec Tryz.prog 235 [AV.str k, AV.str s, AV.bool g] (AV.bool (l3Write k s g)) := by
 refine E7 Tryz.func235 rfl Tryz.ntmps235 rfl ?_
 refine A3 (A2 ?_)
 refine A1 rfl rfl rfl (C3 rfl F4) ?_
 refine A4 (A3 (A2 ?_))
 refine A5 rfl rfl rfl rfl rfl ?_
 refine A1 rfl rfl rfl (E5 rfl Tryz.call119 rfl (AB7 _ (by omega)) (A9 (A0 rfl) D1)) ?_
 refine A5 rfl rfl rfl rfl rfl ?_
 refine B4 rfl rfl (C2 rfl rfl rfl) (fun hc => C6 rfl (A0 rfl)) ?_
 refine B4 rfl rfl (C2 rfl rfl rfl) (fun hc => E5 rfl Tryz.call276 rfl (Aw7 _ (by omega)) (A9 (B0 rfl hc) D1)) ?_
 refine A1 rfl rfl rfl (I6 rfl (A0 rfl) (G4 rfl)) ?_
 refine A5 rfl rfl rfl rfl rfl ?_
 refine B4 rfl rfl (C2 rfl rfl rfl) (fun hc => C6 rfl (A0 rfl)) ?_
 refine B4 rfl rfl (C2 rfl rfl rfl) (fun hc => M2 rfl (B0 rfl hc)) ?_
 refine B4 rfl rfl (C2 rfl rfl rfl) (fun hc => C6 rfl (B0 rfl hc)) ?_
 refine B4 rfl rfl (Q3 rfl rfl rfl) (fun hc => C6 rfl (A0 rfl)) ?_
 refine B4 rfl rfl (Q3 rfl rfl rfl) (fun hc => y5 rfl (B0 rfl hc) (S1 (l := []) rfl)) ?_
 refine B4 rfl rfl (C2 rfl rfl rfl) (fun hc => Q4 rfl (B0 rfl hc) (S0 rfl hc)) ?_
 refine A1 rfl rfl rfl (I6 rfl (A0 rfl) (G4 rfl)) ?_
 refine B9 rfl rfl rfl rfl rfl ?_
 refine A4 ?_
 refine C8 ?_
 exact H9 rfl (C5 rfl (by first | rfl | (refine congrArg AV.bool ?_; simp_all; done)))
theorem AL1 (t : Int) : FSpec Tryz.prog 251 [AV.int t] (AV.bool false) := by
 refine E7 Tryz.func251 rfl Tryz.ntmps251 rfl ?_
 refine A3 (A2 ?_)
 refine A1 rfl rfl rfl (C3 rfl F4) ?_
 refine A4 (A3 (A2 ?_))
 refine A5 rfl rfl rfl rfl rfl ?_
 refine A5 rfl rfl rfl rfl rfl ?_
 refine A1 rfl rfl rfl (g8 rfl (A0 rfl) (A0 rfl)) ?_
 refine B9 rfl rfl rfl rfl rfl ?_
 refine A4 ?_
 refine C8 ?_
 exact H9 rfl (C5 rfl (by exact congrArg AV.bool (by simp)))
theorem AL2 (t : Str) : FSpec Tryz.prog 282 [AV.str t] (AV.bool false) := by
 refine E7 Tryz.func282 rfl Tryz.ntmps282 rfl ?_
 refine A3 (A2 ?_)
 refine A1 rfl rfl rfl (C3 rfl F4) ?_
 refine A4 (A3 (A2 ?_))
 refine A5 rfl rfl rfl rfl rfl ?_
 refine A5 rfl rfl rfl rfl rfl ?_
 refine A1 rfl rfl rfl (AM5 rfl (A0 rfl) (A0 rfl)) ?_
 refine B9 rfl rfl rfl rfl rfl ?_
 refine A4 ?_
 refine C8 ?_
 exact H9 rfl (C5 rfl (by exact congrArg AV.bool (by simp)))
theorem AT1 (x y : Int) : FSpec Tryz.prog 192 [AV.int x, AV.int y] (AV.int (cmpInt x y)) := by
 refine E7 Tryz.func192 rfl Tryz.ntmps192 rfl ?_
 refine A3 (A2 ?_)
 refine A1 rfl rfl rfl (C3 rfl C4) ?_
 refine A4 (A3 (A2 ?_))
 refine A5 rfl rfl rfl rfl rfl ?_
 refine A1 rfl rfl rfl (E5 rfl Tryz.call251 rfl (AL1 _) (A9 (A0 rfl) D1)) ?_
 refine B9 rfl rfl rfl rfl rfl ?_
 refine A4 (A3 (A2 ?_))
 refine A5 rfl rfl rfl rfl rfl ?_
 refine A1 rfl rfl rfl (E5 rfl Tryz.call251 rfl (AL1 _) (A9 (A0 rfl) D1)) ?_
 refine B9 rfl rfl rfl rfl rfl ?_
 refine A4 (A3 (A3 (A2 ?_)))
 refine A5 rfl rfl rfl rfl rfl ?_
 refine A4 ?_
 refine C7 (A0 rfl) ?_ ?_
 ·intro h11
  cases h11
 ·intro h11
  refine D2 (A3 (A3 (A2 ?_)))
  refine A5 rfl rfl rfl rfl rfl ?_
  refine A4 ?_
  refine C7 (A0 rfl) ?_ ?_
  ·intro h13
   cases h13
  ·intro h13
   refine D2 (A3 (A3 (A2 ?_)))
   refine A5 rfl rfl rfl rfl rfl ?_
   refine A5 rfl rfl rfl rfl rfl ?_
   refine A1 rfl rfl rfl (K6 rfl (A0 rfl) (A0 rfl)) ?_
   refine A4 ?_
   refine C7 (A0 rfl) ?_ ?_
   ·intro h16
    have k16 := of_decide_eq_true h16; try simp only [A6] at k16
    refine A3 (A2 ?_)
    refine A1 rfl rfl rfl (C3 rfl C4) ?_
    refine A4 ?_
    refine C8 ?_
    exact H9 rfl (C5 rfl (by exact congrArg AV.int (by unfold cmpInt; (repeat' split) <;> omega)))
   ·intro h16
    have k16 := of_decide_eq_false h16; try simp only [A6] at k16
    refine D2 (A3 (A3 (A2 ?_)))
    refine A5 rfl rfl rfl rfl rfl ?_
    refine A5 rfl rfl rfl rfl rfl ?_
    refine A1 rfl rfl rfl (P8 rfl (A0 rfl) (A0 rfl)) ?_
    refine A4 ?_
    refine C7 (A0 rfl) ?_ ?_
    ·intro h19
     have k19 := of_decide_eq_true h19; try simp only [A6] at k19
     refine A3 (A2 ?_)
     refine A1 rfl rfl rfl (C3 rfl C4) ?_
     refine A4 ?_
     refine C8 ?_
     exact H9 rfl (C5 rfl (by exact congrArg AV.int (by unfold cmpInt; (repeat' split) <;> omega)))
    ·intro h19
     have k19 := of_decide_eq_false h19; try simp only [A6] at k19
     refine D2 (A3 (A2 ?_))
     refine A1 rfl rfl rfl (C3 rfl C4) ?_
     refine A4 ?_
     refine C8 ?_
     exact H9 rfl (C5 rfl (by exact congrArg AV.int (by unfold cmpInt; (repeat' split) <;> omega)))
theorem AT2 (x y : Str) : FSpec Tryz.prog 250 [AV.str x, AV.str y] (AV.int (cmpStr x y)) := by
 refine E7 Tryz.func250 rfl Tryz.ntmps250 rfl ?_
 refine A3 (A2 ?_)
 refine A1 rfl rfl rfl (C3 rfl C4) ?_
 refine A4 (A3 (A2 ?_))
 refine A5 rfl rfl rfl rfl rfl ?_
 refine A1 rfl rfl rfl (E5 rfl Tryz.call282 rfl (AL2 _) (A9 (A0 rfl) D1)) ?_
 refine B9 rfl rfl rfl rfl rfl ?_
 refine A4 (A3 (A2 ?_))
 refine A5 rfl rfl rfl rfl rfl ?_
 refine A1 rfl rfl rfl (E5 rfl Tryz.call282 rfl (AL2 _) (A9 (A0 rfl) D1)) ?_
 refine B9 rfl rfl rfl rfl rfl ?_
 refine A4 (A3 (A3 (A2 ?_)))
 refine A5 rfl rfl rfl rfl rfl ?_
 refine A4 ?_
 refine C7 (A0 rfl) ?_ ?_
 ·intro h11
  cases h11
 ·intro h11
  refine D2 (A3 (A3 (A2 ?_)))
  refine A5 rfl rfl rfl rfl rfl ?_
  refine A4 ?_
  refine C7 (A0 rfl) ?_ ?_
  ·intro h13
   cases h13
  ·intro h13
   refine D2 (A3 (A3 (A2 ?_)))
   refine A5 rfl rfl rfl rfl rfl ?_
   refine A5 rfl rfl rfl rfl rfl ?_
   refine A1 rfl rfl rfl (w_slss rfl (A0 rfl) (A0 rfl)) ?_
   refine A4 ?_
   refine C7 (A0 rfl) ?_ ?_
   ·intro h16
    refine A3 (A2 ?_)
    refine A1 rfl rfl rfl (C3 rfl C4) ?_
    refine A4 ?_
    refine C8 ?_
    exact H9 rfl (C5 rfl (by exact congrArg AV.int (by have := R7 y x; unfold cmpStr; simp_all)))
   ·intro h16
    refine D2 (A3 (A3 (A2 ?_)))
    refine A5 rfl rfl rfl rfl rfl ?_
    refine A5 rfl rfl rfl rfl rfl ?_
    refine A1 rfl rfl rfl (Aj5 rfl (A0 rfl) (A0 rfl)) ?_
    refine A4 ?_
    refine C7 (A0 rfl) ?_ ?_
    ·intro h19
     refine A3 (A2 ?_)
     refine A1 rfl rfl rfl (C3 rfl C4) ?_
     refine A4 ?_
     refine C8 ?_
     exact H9 rfl (C5 rfl (by exact congrArg AV.int (by have := R7 y x; unfold cmpStr; simp_all)))
    ·intro h19
     refine D2 (A3 (A2 ?_))
     refine A1 rfl rfl rfl (C3 rfl C4) ?_
     refine A4 ?_
     refine C8 ?_
     exact H9 rfl (C5 rfl (by exact congrArg AV.int (by have := R7 y x; unfold cmpStr; simp_all)))
end Go.Proofs.YtnlhbdkcgaeimaaGreat

set_option linter.unusedVariables false
set_option linter.unusedSimpArgs false
set_option maxRecDepth 100000
namespace Go.Proofs.YtnlhbdkcgaeimaaGreat
open Go Go.AV Go.M
attribute [local irreducible] OpW OpA OpS AWP FSpec ESpec RetOk RvDen Le Ev GuardIs
end Go.Proofs.YtnlhbdkcgaeimaaGreat

set_option linter.unusedVariables false
set_option linter.unusedSimpArgs false
set_option maxRecDepth 100000
namespace Go.Proofs.YtnlhbdkcgaeimaaGreat
open Go Go.AV Go.M
attribute [local irreducible] OpW OpA OpS AWP FSpec ESpec RetOk RvDen Le Ev GuardIs
theorem Aw8 {l : List TWrite} (h : sizeL TWrite.size l ≤ 4194304) : ∀ k ∈ wKeys l, k.length ≤ 4611686018427387904 := fun k hk => by
  obtain ⟨w, hw, rfl⟩ := List.mem_map.1 hk
  have := z6 (f := TWrite.size) hw
  have h2 : w.size = w.Key.length + w.Val.length := rfl
  omega
theorem t8 (l : List Str) (hs : ∀ k ∈ l, k.length ≤ 4611686018427387904) : FSpec Tryz.prog 155 [strs l] (AV.bool (areRising l)) := by
 refine E7 Tryz.func155 rfl Tryz.ntmps155 rfl ?_
 refine T1 (t := 0) rfl fun hl => ?_
 try simp only [A6] at hl
 refine A3 (A2 ?_)
 refine A1 rfl rfl rfl (C3 rfl F4) ?_
 refine A4 (A3 (A3 (A2 ?_)))
 refine A5 rfl rfl rfl rfl rfl ?_
 refine A1 rfl rfl rfl (G9 rfl E4 (A0 rfl)) ?_
 refine A1 rfl rfl rfl (C6 rfl C4) ?_
 refine A4 (D7 ?_)
 refine J9 [(0, _), (5, _), (6, _)] _ (fun (i : Nat) => i ≤ l.length ∧ areRising l = ((l.drop i).all goodKey && adj Op.bytesLess (l.drop (i - 1)))) (fun (i : Nat) => []) (fun (i : Nat) => [(7, AV.int i)]) (fun (i : Nat) => l.length - i) (0) ?_ (J8 ⟨rfl, rfl, rfl, rfl, trivial⟩) ?_
 ·exact ⟨Nat.zero_le _, rfl⟩
 intro i hinv
 refine A3 (A2 ?_)
 refine A1 rfl rfl rfl (K6 rfl (A0 rfl) (A0 rfl)) ?_
 refine A4 (A3 ?_)
 refine C7 (A0 rfl) ?_ ?_
 ·intro h8
  have k8 := of_decide_eq_true h8; try simp only [A6] at k8
  have hlt : i < l.length := by omega
  obtain ⟨x, hx⟩ := get_some hlt
  obtain ⟨y, hy⟩ := get_some (show i - 1 < l.length by omega)
  have hsx := hs x (G6 hx)
  refine D2 (A3 (D7 (A3 (A2 ?_))))
  refine A5 rfl rfl rfl rfl rfl ?_
  refine A1 rfl rfl rfl (I7 rfl E4 F5 (A0 rfl) (A0 rfl) hx (by first | omega | (simp only [A6, A7, B2, B7, A8, szR] at *; omega))) ?_
  refine A1 rfl rfl rfl (N6 rfl (A0 rfl) H1 rfl) ?_
  refine B9 rfl rfl rfl rfl rfl ?_
  refine B9 rfl rfl rfl rfl rfl ?_
  refine A4 (A3 (A2 ?_))
  refine A5 rfl rfl rfl rfl rfl ?_
  refine A1 rfl rfl rfl (E5 rfl Tryz.call117 rfl (AO7 _ (by omega)) (A9 (A0 rfl) D1)) ?_
  refine A1 rfl rfl rfl (M2 rfl (A0 rfl)) ?_
  refine A5 rfl rfl rfl rfl rfl ?_
  refine B4 rfl rfl (D4 rfl rfl rfl) (fun hc => C6 rfl (A0 rfl)) ?_
  refine B4 rfl rfl (D4 rfl rfl rfl) (fun hc => P8 rfl (B0 rfl hc) C4) ?_
  refine B4 rfl rfl (D4 rfl rfl rfl) (fun hc => C6 rfl (B0 rfl hc)) ?_
  refine B4 rfl rfl (E8 rfl rfl rfl) (fun hc => C6 rfl (A0 rfl)) ?_
  refine B4 rfl rfl (E8 rfl rfl rfl) (fun hc => C6 rfl (A0 rfl)) ?_
  refine B4 rfl rfl (E8 rfl rfl rfl) (fun hc => C6 rfl (A0 rfl)) ?_
  refine B4 rfl rfl (E8 rfl rfl rfl) (fun hc => Q0 rfl (B0 rfl hc) C4 (by first | omega | ((try simp only [A6, A7, B2, B7, A8, szR] at *); omega) | (have hc2 := hc; simp only [Bool.and_eq_true, Bool.or_eq_true, Bool.or_eq_false_iff, Bool.and_eq_false_iff, Bool.not_eq_true', Bool.not_eq_false', decide_eq_true_eq, decide_eq_false_iff_not, beq_iff_eq, bne_iff_ne, A6, A7] at hc2; omega))) ?_
  refine B4 rfl rfl (E8 rfl rfl rfl) (fun hc => I7 rfl E4 F5 (B0 rfl hc) (B0 rfl hc) hy (by first | omega | ((try simp only [A6, A7, B2, B7, A8, szR] at *); omega) | (have hc2 := hc; simp only [Bool.and_eq_true, Bool.or_eq_true, Bool.or_eq_false_iff, Bool.and_eq_false_iff, Bool.not_eq_true', Bool.not_eq_false', decide_eq_true_eq, decide_eq_false_iff_not, beq_iff_eq, bne_iff_ne, A6, A7] at hc2; omega))) ?_
  refine B4 rfl rfl (E8 rfl rfl rfl) (fun hc => N6 rfl (B0 rfl hc) H1 rfl) ?_
  refine B4 rfl rfl (E8 rfl rfl rfl) (fun hc => w_sleq rfl (B0 rfl hc) (B0 rfl hc)) ?_
  refine B4 rfl rfl (D4 rfl rfl rfl) (fun hc => I6 rfl (B0 rfl hc) (S0 rfl hc)) ?_
  refine A1 rfl rfl rfl (Q4 rfl (A0 rfl) (G4 rfl)) ?_
  refine A4 ?_
  refine C7 (A0 rfl) ?_ ?_
  ·intro h27
   have hfin : areRising l = false := by rw [hinv.2]; cases hg : goodKey x with | false => (rw [p6 hx hg]; simp) | true => (have hb : 0 < i ∧ Op.bytesLess y x = false := (by have := R7 y x; simp_all; try grind); rw [s6 hx hy hb.1 hb.2]; simp)
   refine A3 (A2 ?_)
   refine A1 rfl rfl rfl (C3 rfl F4) ?_
   refine A4 ?_
   refine C8 ?_
   exact H9 rfl (C5 rfl (by first | exact congrArg AV.bool hfin.symm | exact congrArg AV.bool (by rw [hinv.2, d9 hge, d8 hge]; rfl)))
  ·intro h27
   have hg : goodKey x = true ∧ (0 < i → Op.bytesLess y x = true) := by have := R7 y x; simp_all
   refine D2 (A2 ?_)
   refine A1 rfl rfl rfl (G7 rfl (A0 rfl) C4 (by first | omega | (simp only [A6, A7, B2, B7, A8, szR] at *; omega))) ?_
   refine A5 rfl rfl rfl rfl rfl ?_
   refine A4 ?_
   refine L4 i (i + 1) ?_ ?_ (J8 ⟨rfl, rfl, rfl, rfl, trivial⟩)
   ·exact ⟨by omega, by rw [hinv.2, s7 hx hg.1, s5 hx hy hg.2]⟩
   ·omega
 ·intro h8
  have k8 := of_decide_eq_false h8; try simp only [A6] at k8
  have hge : l.length ≤ i := by omega
  refine H3 ?_
  refine A3 (A2 ?_)
  refine A1 rfl rfl rfl (C3 rfl F4) ?_
  refine A4 ?_
  refine C8 ?_
  exact H9 rfl (C5 rfl (by first | exact congrArg AV.bool hfin.symm | exact congrArg AV.bool (by rw [hinv.2, d9 hge, d8 hge]; rfl)))
theorem Ac0 (l : List TWrite) (hs : sizeL TWrite.size l ≤ 4194304) : FSpec Tryz.prog 240 [AV.list 3 (l.map TWrite.cs)] (strs (wKeys l)) := by
 have hl : l.length ≤ 4194304 := Nat.le_trans O2 hs
 refine E7 Tryz.func240 rfl Tryz.ntmps240 rfl ?_
 refine A3 (A2 ?_)
 refine A1 rfl rfl rfl (C3 rfl (n3 (sz := 1))) ?_
 refine A4 (A3 (A2 ?_))
 refine S4 rfl rfl rfl rfl E4 F5 ?_
 intro v6
 refine B9 rfl rfl rfl rfl rfl ?_
 refine A4 (A3 (A3 (A2 ?_)))
 refine A5 rfl rfl rfl rfl rfl ?_
 refine A1 rfl rfl rfl (G9 rfl F3 (A0 rfl)) ?_
 refine A1 rfl rfl rfl (C6 rfl C4) ?_
 refine A4 (D7 ?_)
 refine R8 [(2, _), (7, _), (8, _)] _ (fun (i : Nat) (v : Value) => i ≤ l.length) (fun (i : Nat) (v : Value) => [.arr v 9 1 ((l.take i).map fun w => [AV.str w.Key])]) (fun (i : Nat) (v : Value) => [(3, AV.is v), (9, AV.int i)]) (fun (i : Nat) (v : Value) => l.length - i) (0) (v6) ?_ (S7 (by rfl) ⟨rfl, rfl, rfl, rfl, rfl, trivial⟩) ?_
 ·exact Nat.zero_le _
 intro i v hinv
 refine A3 (A2 ?_)
 refine A1 rfl rfl rfl (K6 rfl (A0 rfl) (A0 rfl)) ?_
 refine A4 (A3 ?_)
 refine C7 (A0 rfl) ?_ ?_
 ·intro h10
  have k10 := of_decide_eq_true h10; try simp only [A6] at k10
  have hlt : i < l.length := by omega
  obtain ⟨x, hx⟩ := get_some hlt
  refine D2 (A3 (D7 (A3 (A2 ?_))))
  refine A1 rfl rfl rfl (I7 rfl F3 H7 (A0 rfl) (A0 rfl) hx (by first | omega | (simp only [A6, A7, B2, B7, A8, szR] at *; omega))) ?_
  refine A1 rfl rfl rfl (K4 rfl (A0 rfl) S5 H7) ?_
  refine G0 rfl rfl rfl rfl Tryz.zeroValue77 rfl ?_
  intro b5
  refine D5 0 rfl rfl rfl (A0 rfl) (A0 rfl) (E2 _) rfl H7 rfl ?_
  refine A4 (A2 ?_)
  refine A5 rfl rfl rfl rfl rfl ?_
  refine A1 rfl rfl rfl (B3 0 rfl I1 rfl F5 (A0 rfl) rfl) ?_
  refine A1 rfl rfl rfl (B1 0 rfl (A0 rfl) rfl H1 rfl) ?_
  refine A1 rfl rfl rfl (L9 rfl E4 F5 Tryz.zeroValue9 rfl rfl rfl rfl (E0 (A0 rfl) (P6 _) H6) rfl rfl) ?_
  refine L5 (by' := 16) 1 rfl rfl rfl rfl E4 Tryz.type9 rfl rfl rfl rfl rfl rfl (A0 rfl) (A0 rfl) rfl (by first | omega | (simp only [A6, A7, B2, B7, A8, szR] at *; omega)) ?_
  intro v17_1
  refine B9 rfl rfl rfl rfl rfl ?_
  refine A4 (A2 ?_)
  refine A1 rfl rfl rfl (G7 rfl (A0 rfl) C4 (by first | omega | (simp only [A6, A7, B2, B7, A8, szR] at *; omega))) ?_
  refine A5 rfl rfl rfl rfl rfl ?_
  refine A4 ?_
  refine Q1 i v (i + 1) (v17_1) ?_ ?_ (M1 1 (by exact congrArg (fun z => [Own.arr v17_1 9 1 z]) (V1 (f := fun w : TWrite => [AV.str w.Key]) hx)) ⟨rfl, rfl, rfl, rfl, rfl, trivial⟩)
  ·omega
  ·omega
 ·intro h10
  have k10 := of_decide_eq_false h10; try simp only [A6] at k10
  have hge : l.length ≤ i := by omega
  rw [List.take_of_length_le hge]
  refine H3 ?_
  refine A3 (A2 ?_)
  refine A5 rfl rfl rfl rfl rfl ?_
  refine B9 rfl rfl rfl rfl rfl ?_
  refine A4 ?_
  refine C8 ?_
  refine Ak1 0 2 rfl rfl ?_
  exact H9 rfl (C5 rfl (by exact congrArg (AV.list 1) (by unfold wKeys; rw [List.map_map]; rfl)))
theorem AW0 (w : TWrite) (h : w.size ≤ 4194304) : FSpec Tryz.prog 241 [AV.agg w.cs] (AV.bool (!isStored w.Val w.Gone)) := by
 unfold TWrite.size at h
 refine E7 Tryz.func241 rfl Tryz.ntmps241 rfl ?_
 refine A3 (A2 ?_)
 refine M3 rfl rfl rfl rfl (A0 rfl) ?_
 intro b1
 refine A1 rfl rfl rfl (C3 rfl F4) ?_
 refine A4 (A3 (A2 ?_))
 refine A1 rfl rfl rfl (B3 1 rfl I1 rfl F5 (A0 rfl) rfl) ?_
 refine A1 rfl rfl rfl (B1 0 rfl (A0 rfl) rfl H1 rfl) ?_
 refine A1 rfl rfl rfl (B3 2 rfl I1 rfl J4 (A0 rfl) rfl) ?_
 refine A1 rfl rfl rfl (B1 0 rfl (A0 rfl) rfl L0 rfl) ?_
 refine A1 rfl rfl rfl (E5 rfl Tryz.call242 rfl (AL0 _ _ (by omega)) (A9 (A0 rfl) (A9 (A0 rfl) D1))) ?_
 refine A1 rfl rfl rfl (M2 rfl (A0 rfl)) ?_
 refine B9 rfl rfl rfl rfl rfl ?_
 refine A4 ?_
 refine C8 ?_
 exact H9 rfl (C5 rfl (by first | rfl | (refine congrArg AV.bool ?_; simp_all; done)))
theorem AY9 (l : List TWrite) (hs : sizeL TWrite.size l ≤ 4194304) : FSpec Tryz.prog 177 [AV.list 3 (l.map TWrite.cs)] (AV.bool (goodWrites l)) := by
 have hm : ∀ x ∈ l, x.size ≤ 4194304 := fun x hx => Nat.le_trans (z6 hx) hs
 refine E7 Tryz.func177 rfl Tryz.ntmps177 rfl ?_
 refine A3 (A2 ?_)
 refine A1 rfl rfl rfl (C3 rfl F4) ?_
 refine A4 (A3 (A2 ?_))
 refine A5 rfl rfl rfl rfl rfl ?_
 refine A1 rfl rfl rfl (G9 rfl F3 (A0 rfl)) ?_
 refine A1 rfl rfl rfl (U5 rfl (A0 rfl) C4) ?_
 refine A5 rfl rfl rfl rfl rfl ?_
 refine B4 rfl rfl (C2 rfl rfl rfl) (fun hc => C6 rfl (A0 rfl)) ?_
 refine B4 rfl rfl (C2 rfl rfl rfl) (fun hc => E5 rfl Tryz.call240 rfl (Ac0 _ (by assumption)) (A9 (B0 rfl hc) D1)) ?_
 refine B4 rfl rfl (C2 rfl rfl rfl) (fun hc => E5 rfl Tryz.call155 rfl (t8 _ (by first | assumption | exact Aw8 (by assumption))) (A9 (B0 rfl hc) D1)) ?_
 refine A1 rfl rfl rfl (I6 rfl (A0 rfl) (G4 rfl)) ?_
 refine A5 rfl rfl rfl rfl rfl ?_
 refine B4 rfl rfl (C2 rfl rfl rfl) (fun hc => C6 rfl (A0 rfl)) ?_
 refine B4 rfl rfl (C2 rfl rfl rfl) (fun hc => E5 rfl Tryz.call186 rfl (g7 _ _ _ (by first | (intros; trivial) | assumption | (intros; first | trivial | (simp_all; done)))) (A9 (B0 rfl hc) (A9 (At2 Tryz.call241 (fun w h => AW0 w h)) D1))) ?_
 refine B4 rfl rfl (C2 rfl rfl rfl) (fun hc => M2 rfl (B0 rfl hc)) ?_
 refine A1 rfl rfl rfl (I6 rfl (A0 rfl) (G4 rfl)) ?_
 refine B9 rfl rfl rfl rfl rfl ?_
 refine A4 ?_
 refine C8 ?_
 exact H9 rfl (C5 rfl (by exact congrArg AV.bool (by unfold goodWrites; simp only [A6])))
theorem Ah6 (l : List TWrite) (hs : sizeL TWrite.size l ≤ 1048576) : FSpec Tryz.prog 166 [AV.list 3 (l.map TWrite.cs)] (AV.bool (l3Writes l)) := by
 refine E7 Tryz.func166 rfl Tryz.ntmps166 rfl ?_
 refine T1 (t := 0) rfl fun hl => ?_
 try simp only [A6] at hl
 refine A3 (A2 ?_)
 refine A1 rfl rfl rfl (C3 rfl F4) ?_
 refine A4 (A3 (A3 (A2 ?_)))
 refine A5 rfl rfl rfl rfl rfl ?_
 refine A1 rfl rfl rfl (G9 rfl F3 (A0 rfl)) ?_
 refine A1 rfl rfl rfl (C6 rfl C4) ?_
 refine A4 (D7 ?_)
 refine J9 [(0, _), (5, _), (6, _)] _ (fun (i : Nat) => i ≤ l.length ∧ (l.all wGood && adj wLess l) = ((l.drop i).all wGood && adj wLess (l.drop (i - 1)))) (fun (i : Nat) => []) (fun (i : Nat) => [(7, AV.int i)]) (fun (i : Nat) => l.length - i) (0) ?_ (J8 ⟨rfl, rfl, rfl, rfl, trivial⟩) ?_
 ·exact ⟨Nat.zero_le _, rfl⟩
 intro i hinv
 refine A3 (A2 ?_)
 refine A1 rfl rfl rfl (K6 rfl (A0 rfl) (A0 rfl)) ?_
 refine A4 (A3 ?_)
 refine C7 (A0 rfl) ?_ ?_
 ·intro h8
  have k8 := of_decide_eq_true h8; try simp only [A6] at k8
  have hlt : i < l.length := by omega
  obtain ⟨x, hx⟩ := get_some hlt
  obtain ⟨y, hy⟩ := get_some (show i - 1 < l.length by omega)
  have hsx : x.size ≤ 1048576 := Nat.le_trans (V6 hx) hs
  unfold TWrite.size at hsx
  refine D2 (A3 (D7 (A3 (A2 ?_))))
  refine A5 rfl rfl rfl rfl rfl ?_
  refine A1 rfl rfl rfl (I7 rfl F3 H7 (A0 rfl) (A0 rfl) hx (by first | omega | (simp only [A6, A7, B2, B7, A8, szR] at *; omega))) ?_
  refine A1 rfl rfl rfl (K4 rfl (A0 rfl) S5 H7) ?_
  refine G0 rfl rfl rfl rfl Tryz.zeroValue77 rfl ?_
  intro b4
  refine B9 rfl rfl rfl rfl rfl ?_
  refine D5 0 rfl rfl rfl (A0 rfl) (A0 rfl) (E2 _) rfl H7 rfl ?_
  refine A4 (A3 ?_)
  refine K3 (by kernel_rfl) (by kernel_rfl) rfl ?_
  refine B5 rfl rfl (B3 0 rfl I1 rfl F5 (A0 rfl) rfl) ?_
  refine B5 rfl rfl (B1 0 rfl (A0 rfl) rfl H1 rfl) ?_
  refine B5 rfl rfl (B3 1 rfl I1 rfl F5 (A0 rfl) rfl) ?_
  refine B5 rfl rfl (B1 0 rfl (A0 rfl) rfl H1 rfl) ?_
  refine B5 rfl rfl (B3 2 rfl I1 rfl J4 (A0 rfl) rfl) ?_
  refine B5 rfl rfl (B1 0 rfl (A0 rfl) rfl L0 rfl) ?_
  refine B5 rfl rfl (E5 rfl Tryz.call235 rfl (AO9 _ _ _ (by omega) (by omega)) (A9 (A0 rfl) (A9 (A0 rfl) (A9 (A0 rfl) D1)))) ?_
  refine B5 rfl rfl (M2 rfl (A0 rfl)) ?_
  refine B5 rfl rfl (C6 rfl (A0 rfl)) ?_
  refine E1 rfl (D4 rfl rfl rfl) (fun hc => C6 rfl (A0 rfl)) ?_
  refine E1 rfl (D4 rfl rfl rfl) (fun hc => P8 rfl (B0 rfl hc) C4) ?_
  refine E1 rfl (D4 rfl rfl rfl) (fun hc => C6 rfl (B0 rfl hc)) ?_
  refine E1 rfl (E8 rfl rfl rfl) (fun hc => C6 rfl (A0 rfl)) ?_
  refine E1 rfl (E8 rfl rfl rfl) (fun hc => C6 rfl (A0 rfl)) ?_
  refine E1 rfl (E8 rfl rfl rfl) (fun hc => Q0 rfl (B0 rfl hc) C4 (by first | omega | ((try simp only [A6, A7, B2, B7, A8, szR] at *); omega) | (have hc2 := hc; simp only [Bool.and_eq_true, Bool.or_eq_true, Bool.or_eq_false_iff, Bool.and_eq_false_iff, Bool.not_eq_true', Bool.not_eq_false', decide_eq_true_eq, decide_eq_false_iff_not, beq_iff_eq, bne_iff_ne, A6, A7] at hc2; omega))) ?_
  refine E1 rfl (E8 rfl rfl rfl) (fun hc => I7 rfl F3 H7 (B0 rfl hc) (B0 rfl hc) hy (by first | omega | ((try simp only [A6, A7, B2, B7, A8, szR] at *); omega) | (have hc2 := hc; simp only [Bool.and_eq_true, Bool.or_eq_true, Bool.or_eq_false_iff, Bool.and_eq_false_iff, Bool.not_eq_true', Bool.not_eq_false', decide_eq_true_eq, decide_eq_false_iff_not, beq_iff_eq, bne_iff_ne, A6, A7] at hc2; omega))) ?_
  refine E1 rfl (E8 rfl rfl rfl) (fun hc => W7 rfl I1 rfl F5 (B0 rfl hc) rfl) ?_
  refine E1 rfl (E8 rfl rfl rfl) (fun hc => N6 rfl (B0 rfl hc) H1 rfl) ?_
  refine E1 rfl (E8 rfl rfl rfl) (fun hc => B3 0 rfl I1 rfl F5 (A0 rfl) rfl) ?_
  refine E1 rfl (E8 rfl rfl rfl) (fun hc => B1 0 rfl (B0 rfl hc) rfl H1 rfl) ?_
  refine E1 rfl (E8 rfl rfl rfl) (fun hc => Aj6 rfl (B0 rfl hc) (B0 rfl hc)) ?_
  refine E1 rfl (D4 rfl rfl rfl) (fun hc => I6 rfl (B0 rfl hc) (S0 rfl hc)) ?_
  refine B5 rfl rfl (Q4 rfl (A0 rfl) (G4 rfl)) ?_
  refine O1 ?_
  refine C7 (A0 rfl) ?_ ?_
  ·intro h34
   have hfin : l3Writes l = false := by unfold l3Writes; rw [hinv.2]; cases hg : wGood x with | false => (rw [p6 hx hg]; simp) | true => (have hb : 0 < i ∧ wLess y x = false := (by unfold wGood at hg; unfold wLess; simp_all; try grind); rw [s6 hx hy hb.1 hb.2]; simp)
   refine A3 (A2 ?_)
   refine A1 rfl rfl rfl (C3 rfl F4) ?_
   refine A4 ?_
   refine C8 ?_
   exact H9 rfl (C5 rfl (by first | exact congrArg AV.bool hfin.symm | exact congrArg AV.bool (by unfold l3Writes; rw [hinv.2, d9 hge, d8 hge, A6]; simp)))
  ·intro h34
   have hg : wGood x = true ∧ (0 < i → wLess y x = true) := by unfold wGood wLess; simp_all
   refine D2 (A2 ?_)
   refine A1 rfl rfl rfl (G7 rfl (A0 rfl) C4 (by first | omega | (simp only [A6, A7, B2, B7, A8, szR] at *; omega))) ?_
   refine A5 rfl rfl rfl rfl rfl ?_
   refine A4 ?_
   refine L4 i (i + 1) ?_ ?_ (T9 1 ⟨rfl, rfl, rfl, rfl, trivial⟩)
   ·exact ⟨by omega, by rw [hinv.2, s7 hx hg.1, s5 hx hy hg.2]⟩
   ·omega
 ·intro h8
  have k8 := of_decide_eq_false h8; try simp only [A6] at k8
  have hge : l.length ≤ i := by omega
  refine H3 ?_
  refine A3 (A2 ?_)
  refine A5 rfl rfl rfl rfl rfl ?_
  refine A1 rfl rfl rfl (G9 rfl F3 (A0 rfl)) ?_
  refine A1 rfl rfl rfl (U5 rfl (A0 rfl) C4) ?_
  refine B9 rfl rfl rfl rfl rfl ?_
  refine A4 ?_
  refine C8 ?_
  exact H9 rfl (C5 rfl (by first | exact congrArg AV.bool hfin.symm | exact congrArg AV.bool (by unfold l3Writes; rw [hinv.2, d9 hge, d8 hge, A6]; simp)))
end Go.Proofs.YtnlhbdkcgaeimaaGreat

set_option linter.unusedVariables false
set_option linter.unusedSimpArgs false
set_option maxRecDepth 100000
namespace Go.Proofs.YtnlhbdkcgaeimaaGreat
open Go Go.AV Go.M
attribute [local irreducible] OpW OpA OpS AWP FSpec ESpec RetOk RvDen Le Ev GuardIs
theorem AZ0 (w : TWrite) (k : Str) : FSpec Tryz.prog 268 [AV.agg w.cs, AV.str k] (AV.int (wCmp k w)) := by
 refine E7 Tryz.func268 rfl Tryz.ntmps268 rfl ?_
 refine A3 (A2 ?_)
 refine M3 rfl rfl rfl rfl (A0 rfl) ?_
 intro b2
 refine A1 rfl rfl rfl (C3 rfl C4) ?_
 refine A4 (A3 (A2 ?_))
 refine A1 rfl rfl rfl (B3 0 rfl I1 rfl F5 (A0 rfl) rfl) ?_
 refine A1 rfl rfl rfl (B1 0 rfl (A0 rfl) rfl H1 rfl) ?_
 refine A5 rfl rfl rfl rfl rfl ?_
 refine A1 rfl rfl rfl (E5 rfl Tryz.call250 rfl (AT2 _ _) (A9 (A0 rfl) (A9 (A0 rfl) D1))) ?_
 refine B9 rfl rfl rfl rfl rfl ?_
 refine A4 ?_
 refine C8 ?_
 exact H9 rfl (C5 rfl (by first | rfl | (refine congrArg AV.bool ?_; simp_all; done)))
theorem AH9 (l : List TWrite) (k : Str) (hs : l.length ≤ 4611686018427387903) : FSpec Tryz.prog 216 [AV.list 3 (l.map TWrite.cs), AV.str k] (AV.tup [AV.int (wPos l k), AV.bool (wHas l k)]) := by
 refine E7 Tryz.func216 rfl Tryz.ntmps216 rfl ?_
 refine A3 (A2 ?_)
 refine A1 rfl rfl rfl (C3 rfl C4) ?_
 refine A1 rfl rfl rfl (C3 rfl F4) ?_
 refine A4 (A3 (A2 ?_))
 refine A5 rfl rfl rfl rfl rfl ?_
 refine A5 rfl rfl rfl rfl rfl ?_
 refine A1 rfl rfl rfl (E5 rfl Tryz.call267 rfl (AG0 _ _ _ (by first | (intros; trivial) | assumption | (intros; first | trivial | (simp_all; done))) _ (by omega)) (A9 (A0 rfl) (A9 (A0 rfl) (A9 (AQ6 Tryz.call268 (fun w k (_ : True) => AZ0 w k)) D1)))) ?_
 refine A1 rfl rfl rfl (F6 rfl (A0 rfl) rfl) ?_
 refine A1 rfl rfl rfl (F6 rfl (A0 rfl) rfl) ?_
 refine B9 rfl rfl rfl rfl rfl ?_
 refine B9 rfl rfl rfl rfl rfl ?_
 refine A4 ?_
 refine C8 ?_
 exact X2 rfl (by decide) (E6 (C5 rfl (by first | rfl | (refine congrArg AV.bool ?_; simp_all; done))) (E6 (C5 rfl (by first | rfl | (refine congrArg AV.bool ?_; simp_all; done))) K8))
end Go.Proofs.YtnlhbdkcgaeimaaGreat

set_option linter.unusedVariables false
set_option linter.unusedSimpArgs false
set_option maxRecDepth 100000
namespace Go.Proofs.YtnlhbdkcgaeimaaGreat
open Go Go.AV Go.M
attribute [local irreducible] OpW OpA OpS AWP FSpec ESpec RetOk RvDen Le Ev GuardIs
theorem d5 {c : TCell} {n : Nat} (h : c.size ≤ n) : c.Key.length ≤ n ∧ c.Vers.length ≤ n ∧ sizeL TVer.size c.Vers ≤ n := by
  unfold TCell.size at h
  have : c.Vers.length ≤ n := Nat.le_trans O2 (show sizeL TVer.size c.Vers ≤ n by omega)
  omega
theorem AG1 (t : Int) : FSpec Tryz.prog 90 [AV.int t] (AV.bool (isTrue t)) := by
 refine E7 Tryz.func90 rfl Tryz.ntmps90 rfl ?_
 refine A3 (A2 ?_)
 refine A1 rfl rfl rfl (C3 rfl F4) ?_
 refine A4 (A3 (A2 ?_))
 refine A5 rfl rfl rfl rfl rfl ?_
 refine A1 rfl rfl rfl (E5 rfl Tryz.call94 rfl (g6 _ _ _) (A9 (A0 rfl) (A9 C4 (A9 C4 D1)))) ?_
 refine B9 rfl rfl rfl rfl rfl ?_
 refine A4 ?_
 refine C8 ?_
 exact H9 rfl (C5 rfl (by first | rfl | (refine congrArg AV.bool ?_; simp_all; done)))
theorem m1 (t : Int) : FSpec Tryz.prog 147 [AV.int t] (AV.bool (within t 1 100000)) := by
 refine E7 Tryz.func147 rfl Tryz.ntmps147 rfl ?_
 refine A3 (A2 ?_)
 refine A1 rfl rfl rfl (C3 rfl F4) ?_
 refine A4 (A3 (A2 ?_))
 refine A5 rfl rfl rfl rfl rfl ?_
 refine A1 rfl rfl rfl (E5 rfl Tryz.call137 rfl (a8 _ _ _) (A9 (A0 rfl) (A9 C4 (A9 C4 D1)))) ?_
 refine B9 rfl rfl rfl rfl rfl ?_
 refine A4 ?_
 refine C8 ?_
 exact H9 rfl (C5 rfl (by first | rfl | (refine congrArg AV.bool ?_; simp_all; done)))
theorem AT3 (t : Int) : FSpec Tryz.prog 120 [AV.int t] (AV.bool (isTrue t)) := by
 refine E7 Tryz.func120 rfl Tryz.ntmps120 rfl ?_
 refine A3 (A2 ?_)
 refine A1 rfl rfl rfl (C3 rfl F4) ?_
 refine A4 (A3 (A2 ?_))
 refine A5 rfl rfl rfl rfl rfl ?_
 refine A1 rfl rfl rfl (E5 rfl Tryz.call137 rfl (a8 _ _ _) (A9 (A0 rfl) (A9 C4 (A9 C4 D1)))) ?_
 refine B9 rfl rfl rfl rfl rfl ?_
 refine A4 ?_
 refine C8 ?_
 exact H9 rfl (C5 rfl (by first | rfl | (refine congrArg AV.bool ?_; simp_all; done)))
theorem Aq8 (c : TCell) (hs : c.size ≤ 4194304) : FSpec Tryz.prog 181 [AV.agg c.cs] (AV.bool (isCell c)) := by
 have hcl := d5 hs
 refine E7 Tryz.func181 rfl Tryz.ntmps181 rfl ?_
 refine A3 (A2 ?_)
 refine M3 rfl rfl rfl rfl (A0 rfl) ?_
 intro b1
 refine A1 rfl rfl rfl (C3 rfl F4) ?_
 refine A4 (A3 (A3 (A2 ?_)))
 refine A1 rfl rfl rfl (B3 1 rfl G5 rfl M0 (A0 rfl) rfl) ?_
 refine A1 rfl rfl rfl (B1 0 rfl (A0 rfl) rfl P4 rfl) ?_
 refine A1 rfl rfl rfl (G9 rfl I5 (A0 rfl)) ?_
 refine A1 rfl rfl rfl (C6 rfl C4) ?_
 refine A4 (D7 ?_)
 refine J9 [(1, _), (6, _), (7, _)] _ (fun (i : Nat) => i ≤ c.Vers.length ∧ (c.Vers.all verGood && adj verLess c.Vers) = ((c.Vers.drop i).all verGood && adj verLess (c.Vers.drop (i - 1)))) (fun (i : Nat) => []) (fun (i : Nat) => [(8, AV.int i)]) (fun (i : Nat) => c.Vers.length - i) (0) ?_ (J8 ⟨rfl, rfl, rfl, rfl, trivial⟩) ?_
 ·exact ⟨Nat.zero_le _, rfl⟩
 intro i hinv
 refine A3 (A2 ?_)
 refine A1 rfl rfl rfl (K6 rfl (A0 rfl) (A0 rfl)) ?_
 refine A4 (A3 ?_)
 refine C7 (A0 rfl) ?_ ?_
 ·intro h9
  have k9 := of_decide_eq_true h9; try simp only [A6] at k9
  have hlt : i < c.Vers.length := by omega
  obtain ⟨x, hx⟩ := get_some hlt
  obtain ⟨y, hy⟩ := get_some (show i - 1 < c.Vers.length by omega)
  have hsx : x.size ≤ 4194304 := Nat.le_trans (V6 hx) hcl.2.2
  unfold TVer.size at hsx
  refine D2 (A3 (D7 (A3 (A2 ?_))))
  refine A5 rfl rfl rfl rfl rfl ?_
  refine A1 rfl rfl rfl (I7 rfl I5 N2 (A0 rfl) (A0 rfl) hx (by first | omega | (simp only [A6, A7, B2, B7, A8, szR] at *; omega))) ?_
  refine A1 rfl rfl rfl (K4 rfl (A0 rfl) i8 N2) ?_
  refine G0 rfl rfl rfl rfl Tryz.zeroValue197 rfl ?_
  intro b4
  refine B9 rfl rfl rfl rfl rfl ?_
  refine D5 0 rfl rfl rfl (A0 rfl) (A0 rfl) (E2 _) rfl N2 rfl ?_
  refine A4 (A3 ?_)
  refine K3 (by kernel_rfl) (by kernel_rfl) rfl ?_
  refine B5 rfl rfl (B3 0 rfl P2 rfl C0 (A0 rfl) rfl) ?_
  refine B5 rfl rfl (B1 0 rfl (A0 rfl) rfl D0 rfl) ?_
  refine B5 rfl rfl (E5 rfl Tryz.call134 rfl (m0 _) (A9 (A0 rfl) D1)) ?_
  refine B5 rfl rfl (M2 rfl (A0 rfl)) ?_
  refine B5 rfl rfl (C6 rfl (A0 rfl)) ?_
  refine E1 rfl (D4 rfl rfl rfl) (fun hc => B3 1 rfl P2 rfl F5 (A0 rfl) rfl) ?_
  refine E1 rfl (D4 rfl rfl rfl) (fun hc => B1 0 rfl (B0 rfl hc) rfl H1 rfl) ?_
  refine E1 rfl (D4 rfl rfl rfl) (fun hc => B3 2 rfl P2 rfl J4 (A0 rfl) rfl) ?_
  refine E1 rfl (D4 rfl rfl rfl) (fun hc => B1 0 rfl (B0 rfl hc) rfl L0 rfl) ?_
  refine E1 rfl (D4 rfl rfl rfl) (fun hc => E5 rfl Tryz.call242 rfl (AL0 _ _ (by omega)) (A9 (B0 rfl hc) (A9 (B0 rfl hc) D1))) ?_
  refine E1 rfl (D4 rfl rfl rfl) (fun hc => M2 rfl (B0 rfl hc)) ?_
  refine B5 rfl rfl (Q4 rfl (A0 rfl) (G4 rfl)) ?_
  refine B5 rfl rfl (C6 rfl (A0 rfl)) ?_
  refine E1 rfl (D4 rfl rfl rfl) (fun hc => C6 rfl (A0 rfl)) ?_
  refine E1 rfl (D4 rfl rfl rfl) (fun hc => P8 rfl (B0 rfl hc) C4) ?_
  refine E1 rfl (D4 rfl rfl rfl) (fun hc => C6 rfl (B0 rfl hc)) ?_
  refine E1 rfl (E8 rfl rfl rfl) (fun hc => B3 0 rfl P2 rfl C0 (A0 rfl) rfl) ?_
  refine E1 rfl (E8 rfl rfl rfl) (fun hc => B1 0 rfl (B0 rfl hc) rfl D0 rfl) ?_
  refine E1 rfl (E8 rfl rfl rfl) (fun hc => B3 1 rfl G5 rfl M0 (A0 rfl) rfl) ?_
  refine E1 rfl (E8 rfl rfl rfl) (fun hc => B1 1 rfl (B0 rfl hc) rfl P4 rfl) ?_
  refine E1 rfl (E8 rfl rfl rfl) (fun hc => C6 rfl (A0 rfl)) ?_
  refine E1 rfl (E8 rfl rfl rfl) (fun hc => Q0 rfl (B0 rfl hc) C4 (by first | omega | ((try simp only [A6, A7, B2, B7, A8, szR] at *); omega) | (have hc2 := hc; simp only [Bool.and_eq_true, Bool.or_eq_true, Bool.or_eq_false_iff, Bool.and_eq_false_iff, Bool.not_eq_true', Bool.not_eq_false', decide_eq_true_eq, decide_eq_false_iff_not, beq_iff_eq, bne_iff_ne, A6, A7] at hc2; omega))) ?_
  refine E1 rfl (E8 rfl rfl rfl) (fun hc => I7 rfl I5 N2 (B0 rfl hc) (B0 rfl hc) hy (by first | omega | ((try simp only [A6, A7, B2, B7, A8, szR] at *); omega) | (have hc2 := hc; simp only [Bool.and_eq_true, Bool.or_eq_true, Bool.or_eq_false_iff, Bool.and_eq_false_iff, Bool.not_eq_true', Bool.not_eq_false', decide_eq_true_eq, decide_eq_false_iff_not, beq_iff_eq, bne_iff_ne, A6, A7] at hc2; omega))) ?_
  refine E1 rfl (E8 rfl rfl rfl) (fun hc => W7 rfl P2 rfl C0 (B0 rfl hc) rfl) ?_
  refine E1 rfl (E8 rfl rfl rfl) (fun hc => N6 rfl (B0 rfl hc) D0 rfl) ?_
  refine E1 rfl (E8 rfl rfl rfl) (fun hc => U5 rfl (B0 rfl hc) (B0 rfl hc)) ?_
  refine E1 rfl (D4 rfl rfl rfl) (fun hc => I6 rfl (B0 rfl hc) (S0 rfl hc)) ?_
  refine B5 rfl rfl (Q4 rfl (A0 rfl) (G4 rfl)) ?_
  refine O1 ?_
  refine C7 (A0 rfl) ?_ ?_
  ·intro h40
   have hfin : isCell c = false := by unfold isCell; rw [hinv.2]; cases hg : verGood x with | false => (rw [p6 hx hg]; simp) | true => (have hb : 0 < i ∧ verLess y x = false := (by unfold verGood at hg; unfold verLess; simp_all; try grind); rw [s6 hx hy hb.1 hb.2]; simp)
   refine A3 (A2 ?_)
   refine A1 rfl rfl rfl (C3 rfl F4) ?_
   refine A4 ?_
   refine C8 ?_
   exact H9 rfl (C5 rfl (by first | exact congrArg AV.bool hfin.symm | exact congrArg AV.bool (by unfold isCell; rw [hinv.2, d9 hge, d8 hge]; simp)))
  ·intro h40
   have hg : verGood x = true ∧ (0 < i → verLess y x = true) := by unfold verGood verLess; simp_all
   refine D2 (A2 ?_)
   refine A1 rfl rfl rfl (G7 rfl (A0 rfl) C4 (by first | omega | (simp only [A6, A7, B2, B7, A8, szR] at *; omega))) ?_
   refine A5 rfl rfl rfl rfl rfl ?_
   refine A4 ?_
   refine L4 i (i + 1) ?_ ?_ (T9 1 ⟨rfl, rfl, rfl, rfl, trivial⟩)
   ·exact ⟨by omega, by rw [hinv.2, s7 hx hg.1, s5 hx hy hg.2]⟩
   ·omega
 ·intro h9
  have k9 := of_decide_eq_false h9; try simp only [A6] at k9
  have hge : c.Vers.length ≤ i := by omega
  refine H3 ?_
  refine A3 (A2 ?_)
  refine A1 rfl rfl rfl (B3 1 rfl G5 rfl M0 (A0 rfl) rfl) ?_
  refine A1 rfl rfl rfl (B1 0 rfl (A0 rfl) rfl P4 rfl) ?_
  refine A1 rfl rfl rfl (G9 rfl I5 (A0 rfl)) ?_
  refine A1 rfl rfl rfl (E5 rfl Tryz.call94 rfl (g6 _ _ _) (A9 (A0 rfl) (A9 C4 (A9 C4 D1)))) ?_
  refine B9 rfl rfl rfl rfl rfl ?_
  refine A4 ?_
  refine C8 ?_
  exact H9 rfl (C5 rfl (by first | exact congrArg AV.bool hfin.symm | exact congrArg AV.bool (by unfold isCell; rw [hinv.2, d9 hge, d8 hge]; simp)))
theorem Aq9 (c : TCell) (hs : c.size ≤ 4194304) : FSpec Tryz.prog 260 [AV.agg c.cs] (AV.bool (l3Cell c)) := by
 have hcl := d5 hs
 refine E7 Tryz.func260 rfl Tryz.ntmps260 rfl ?_
 refine A3 (A2 ?_)
 refine M3 rfl rfl rfl rfl (A0 rfl) ?_
 intro b1
 refine A1 rfl rfl rfl (C3 rfl F4) ?_
 refine A4 (A3 (A3 (A2 ?_)))
 refine A1 rfl rfl rfl (B3 1 rfl G5 rfl M0 (A0 rfl) rfl) ?_
 refine A1 rfl rfl rfl (B1 0 rfl (A0 rfl) rfl P4 rfl) ?_
 refine A1 rfl rfl rfl (G9 rfl I5 (A0 rfl)) ?_
 refine A1 rfl rfl rfl (C6 rfl C4) ?_
 refine A4 (D7 ?_)
 refine J9 [(1, _), (6, _), (7, _)] _ (fun (i : Nat) => i ≤ c.Vers.length ∧ (c.Vers.all (verGoodS c.Key) && adj verLess c.Vers) = ((c.Vers.drop i).all (verGoodS c.Key) && adj verLess (c.Vers.drop (i - 1)))) (fun (i : Nat) => []) (fun (i : Nat) => [(8, AV.int i)]) (fun (i : Nat) => c.Vers.length - i) (0) ?_ (J8 ⟨rfl, rfl, rfl, rfl, trivial⟩) ?_
 ·exact ⟨Nat.zero_le _, rfl⟩
 intro i hinv
 refine A3 (A2 ?_)
 refine A1 rfl rfl rfl (K6 rfl (A0 rfl) (A0 rfl)) ?_
 refine A4 (A3 ?_)
 refine C7 (A0 rfl) ?_ ?_
 ·intro h9
  have k9 := of_decide_eq_true h9; try simp only [A6] at k9
  have hlt : i < c.Vers.length := by omega
  obtain ⟨x, hx⟩ := get_some hlt
  obtain ⟨y, hy⟩ := get_some (show i - 1 < c.Vers.length by omega)
  have hsx : x.size ≤ 4194304 := Nat.le_trans (V6 hx) hcl.2.2
  unfold TVer.size at hsx
  refine D2 (A3 (D7 (A3 (A2 ?_))))
  refine A5 rfl rfl rfl rfl rfl ?_
  refine A1 rfl rfl rfl (I7 rfl I5 N2 (A0 rfl) (A0 rfl) hx (by first | omega | (simp only [A6, A7, B2, B7, A8, szR] at *; omega))) ?_
  refine A1 rfl rfl rfl (K4 rfl (A0 rfl) i8 N2) ?_
  refine G0 rfl rfl rfl rfl Tryz.zeroValue197 rfl ?_
  intro b4
  refine B9 rfl rfl rfl rfl rfl ?_
  refine D5 0 rfl rfl rfl (A0 rfl) (A0 rfl) (E2 _) rfl N2 rfl ?_
  refine A4 (A3 ?_)
  refine K3 (by kernel_rfl) (by kernel_rfl) rfl ?_
  refine B5 rfl rfl (B3 0 rfl P2 rfl C0 (A0 rfl) rfl) ?_
  refine B5 rfl rfl (B1 0 rfl (A0 rfl) rfl D0 rfl) ?_
  refine B5 rfl rfl (E5 rfl Tryz.call147 rfl (m1 _) (A9 (A0 rfl) D1)) ?_
  refine B5 rfl rfl (M2 rfl (A0 rfl)) ?_
  refine B5 rfl rfl (C6 rfl (A0 rfl)) ?_
  refine E1 rfl (D4 rfl rfl rfl) (fun hc => B3 0 rfl G5 rfl F5 (A0 rfl) rfl) ?_
  refine E1 rfl (D4 rfl rfl rfl) (fun hc => B1 1 rfl (B0 rfl hc) rfl H1 rfl) ?_
  refine E1 rfl (D4 rfl rfl rfl) (fun hc => B3 1 rfl P2 rfl F5 (A0 rfl) rfl) ?_
  refine E1 rfl (D4 rfl rfl rfl) (fun hc => B1 0 rfl (B0 rfl hc) rfl H1 rfl) ?_
  refine E1 rfl (D4 rfl rfl rfl) (fun hc => B3 2 rfl P2 rfl J4 (A0 rfl) rfl) ?_
  refine E1 rfl (D4 rfl rfl rfl) (fun hc => B1 0 rfl (B0 rfl hc) rfl L0 rfl) ?_
  refine E1 rfl (D4 rfl rfl rfl) (fun hc => E5 rfl Tryz.call235 rfl (AO9 _ _ _ (by omega) (by omega)) (A9 (B0 rfl hc) (A9 (B0 rfl hc) (A9 (B0 rfl hc) D1)))) ?_
  refine E1 rfl (D4 rfl rfl rfl) (fun hc => M2 rfl (B0 rfl hc)) ?_
  refine B5 rfl rfl (Q4 rfl (A0 rfl) (G4 rfl)) ?_
  refine B5 rfl rfl (C6 rfl (A0 rfl)) ?_
  refine E1 rfl (D4 rfl rfl rfl) (fun hc => C6 rfl (A0 rfl)) ?_
  refine E1 rfl (D4 rfl rfl rfl) (fun hc => P8 rfl (B0 rfl hc) C4) ?_
  refine E1 rfl (D4 rfl rfl rfl) (fun hc => C6 rfl (B0 rfl hc)) ?_
  refine E1 rfl (E8 rfl rfl rfl) (fun hc => B3 1 rfl G5 rfl M0 (A0 rfl) rfl) ?_
  refine E1 rfl (E8 rfl rfl rfl) (fun hc => B1 1 rfl (B0 rfl hc) rfl P4 rfl) ?_
  refine E1 rfl (E8 rfl rfl rfl) (fun hc => C6 rfl (A0 rfl)) ?_
  refine E1 rfl (E8 rfl rfl rfl) (fun hc => Q0 rfl (B0 rfl hc) C4 (by first | omega | ((try simp only [A6, A7, B2, B7, A8, szR] at *); omega) | (have hc2 := hc; simp only [Bool.and_eq_true, Bool.or_eq_true, Bool.or_eq_false_iff, Bool.and_eq_false_iff, Bool.not_eq_true', Bool.not_eq_false', decide_eq_true_eq, decide_eq_false_iff_not, beq_iff_eq, bne_iff_ne, A6, A7] at hc2; omega))) ?_
  refine E1 rfl (E8 rfl rfl rfl) (fun hc => I7 rfl I5 N2 (B0 rfl hc) (B0 rfl hc) hy (by first | omega | ((try simp only [A6, A7, B2, B7, A8, szR] at *); omega) | (have hc2 := hc; simp only [Bool.and_eq_true, Bool.or_eq_true, Bool.or_eq_false_iff, Bool.and_eq_false_iff, Bool.not_eq_true', Bool.not_eq_false', decide_eq_true_eq, decide_eq_false_iff_not, beq_iff_eq, bne_iff_ne, A6, A7] at hc2; omega))) ?_
  refine E1 rfl (E8 rfl rfl rfl) (fun hc => W7 rfl P2 rfl C0 (B0 rfl hc) rfl) ?_
  refine E1 rfl (E8 rfl rfl rfl) (fun hc => N6 rfl (B0 rfl hc) D0 rfl) ?_
  refine E1 rfl (E8 rfl rfl rfl) (fun hc => B3 0 rfl P2 rfl C0 (A0 rfl) rfl) ?_
  refine E1 rfl (E8 rfl rfl rfl) (fun hc => B1 0 rfl (B0 rfl hc) rfl D0 rfl) ?_
  refine E1 rfl (E8 rfl rfl rfl) (fun hc => d6 rfl (B0 rfl hc) (B0 rfl hc)) ?_
  refine E1 rfl (D4 rfl rfl rfl) (fun hc => I6 rfl (B0 rfl hc) (S0 rfl hc)) ?_
  refine B5 rfl rfl (Q4 rfl (A0 rfl) (G4 rfl)) ?_
  refine O1 ?_
  refine C7 (A0 rfl) ?_ ?_
  ·intro h42
   have hfin : l3Cell c = false := by unfold l3Cell; rw [hinv.2]; cases hg : verGoodS c.Key x with | false => (rw [p6 hx hg]; simp) | true => (have hb : 0 < i ∧ verLess y x = false := (by unfold verGoodS at hg; unfold verLess; simp_all; try grind); rw [s6 hx hy hb.1 hb.2]; simp)
   refine A3 (A2 ?_)
   refine A1 rfl rfl rfl (C3 rfl F4) ?_
   refine A4 ?_
   refine C8 ?_
   exact H9 rfl (C5 rfl (by first | exact congrArg AV.bool hfin.symm | exact congrArg AV.bool (by unfold l3Cell; rw [hinv.2, d9 hge, d8 hge]; simp)))
  ·intro h42
   have hg : verGoodS c.Key x = true ∧ (0 < i → verLess y x = true) := by unfold verGoodS verLess; simp_all
   refine D2 (A2 ?_)
   refine A1 rfl rfl rfl (G7 rfl (A0 rfl) C4 (by first | omega | (simp only [A6, A7, B2, B7, A8, szR] at *; omega))) ?_
   refine A5 rfl rfl rfl rfl rfl ?_
   refine A4 ?_
   refine L4 i (i + 1) ?_ ?_ (T9 1 ⟨rfl, rfl, rfl, rfl, trivial⟩)
   ·exact ⟨by omega, by rw [hinv.2, s7 hx hg.1, s5 hx hy hg.2]⟩
   ·omega
 ·intro h9
  have k9 := of_decide_eq_false h9; try simp only [A6] at k9
  have hge : c.Vers.length ≤ i := by omega
  refine H3 ?_
  refine A3 (A2 ?_)
  refine A1 rfl rfl rfl (B3 0 rfl G5 rfl F5 (A0 rfl) rfl) ?_
  refine A1 rfl rfl rfl (B1 0 rfl (A0 rfl) rfl H1 rfl) ?_
  refine A1 rfl rfl rfl (E5 rfl Tryz.call119 rfl (AB7 _ (by omega)) (A9 (A0 rfl) D1)) ?_
  refine A5 rfl rfl rfl rfl rfl ?_
  refine B4 rfl rfl (C2 rfl rfl rfl) (fun hc => B3 1 rfl G5 rfl M0 (A0 rfl) rfl) ?_
  refine B4 rfl rfl (C2 rfl rfl rfl) (fun hc => B1 0 rfl (B0 rfl hc) rfl P4 rfl) ?_
  refine B4 rfl rfl (C2 rfl rfl rfl) (fun hc => G9 rfl I5 (B0 rfl hc)) ?_
  refine B4 rfl rfl (C2 rfl rfl rfl) (fun hc => E5 rfl Tryz.call137 rfl (a8 _ _ _) (A9 (B0 rfl hc) (A9 C4 (A9 C4 D1)))) ?_
  refine A1 rfl rfl rfl (I6 rfl (A0 rfl) (G4 rfl)) ?_
  refine B9 rfl rfl rfl rfl rfl ?_
  refine A4 ?_
  refine C8 ?_
  exact H9 rfl (C5 rfl (by first | exact congrArg AV.bool hfin.symm | exact congrArg AV.bool (by unfold l3Cell; rw [hinv.2, d9 hge, d8 hge]; simp)))
theorem u3 (l : List TCell) (hs : sizeL TCell.size l ≤ 4194304) : FSpec Tryz.prog 91 [AV.list 2 (l.map TCell.cs)] (AV.bool (goodCells l)) := by
 have hl : l.length ≤ 4194304 := Nat.le_trans O2 hs
 have hks : ∀ k ∈ cKeys l, k.length ≤ 4611686018427387904 := fun k hk => by
  obtain ⟨w, hw, rfl⟩ := List.mem_map.1 hk
  have := d5 (Nat.le_trans (z6 hw) hs)
  omega
 refine E7 Tryz.func91 rfl Tryz.ntmps91 rfl ?_
 refine A3 (A2 ?_)
 refine A1 rfl rfl rfl (C3 rfl F4) ?_
 refine A4 (A3 (A2 ?_))
 refine S4 rfl rfl rfl rfl E4 F5 ?_
 intro v6
 refine B9 rfl rfl rfl rfl rfl ?_
 refine A4 (A3 (A3 (A2 ?_)))
 refine A5 rfl rfl rfl rfl rfl ?_
 refine A1 rfl rfl rfl (G9 rfl D8 (A0 rfl)) ?_
 refine A1 rfl rfl rfl (C6 rfl C4) ?_
 refine A4 (D7 ?_)
 refine R8 [(0, _), (7, _), (8, _)] _ (fun (i : Nat) (v : Value) => i ≤ l.length ∧ l.all isCell = (l.drop i).all isCell) (fun (i : Nat) (v : Value) => [.arr v 9 1 ((l.take i).map fun w => [AV.str w.Key])]) (fun (i : Nat) (v : Value) => [(3, AV.is v), (9, AV.int i)]) (fun (i : Nat) (v : Value) => l.length - i) (0) (v6) ?_ (S7 (by rfl) ⟨rfl, rfl, rfl, rfl, rfl, trivial⟩) ?_
 ·exact ⟨Nat.zero_le _, rfl⟩
 intro i v hinv
 refine A3 (A2 ?_)
 refine A1 rfl rfl rfl (K6 rfl (A0 rfl) (A0 rfl)) ?_
 refine A4 (A3 ?_)
 refine C7 (A0 rfl) ?_ ?_
 ·intro h10
  have k10 := of_decide_eq_true h10; try simp only [A6] at k10
  have hlt : i < l.length := by omega
  obtain ⟨x, hx⟩ := get_some hlt
  have hsx : x.size ≤ 4194304 := Nat.le_trans (V6 hx) hs
  refine D2 (A3 (D7 (A3 (A2 ?_))))
  refine A1 rfl rfl rfl (I7 rfl D8 F0 (A0 rfl) (A0 rfl) hx (by first | omega | (simp only [A6, A7, B2, B7, A8, szR] at *; omega))) ?_
  refine A1 rfl rfl rfl (K4 rfl (A0 rfl) S9 F0) ?_
  refine G0 rfl rfl rfl rfl Tryz.zeroValue142 rfl ?_
  intro b5
  refine D5 0 rfl rfl rfl (A0 rfl) (A0 rfl) (E2 _) rfl F0 rfl ?_
  refine A4 (A3 (A3 (A2 ?_)))
  refine A1 rfl rfl rfl (F2 0 rfl (A0 rfl) rfl S9 F0 rfl) ?_
  refine A1 rfl rfl rfl (E5 rfl Tryz.call181 rfl (Aq8 _ (by first | assumption | omega)) (A9 (A0 rfl) D1)) ?_
  refine A1 rfl rfl rfl (M2 rfl (A0 rfl)) ?_
  refine A4 ?_
  refine C7 (A0 rfl) ?_ ?_
  ·intro h15
   refine A3 (A2 ?_)
   refine A1 rfl rfl rfl (C3 rfl F4) ?_
   refine A4 ?_
   refine C8 ?_
   exact H9 rfl (C5 rfl (by first | exact congrArg AV.bool (by unfold goodCells; rw [hinv.2, p6 hx (by simpa using h15)]; rfl) | exact congrArg AV.bool (by unfold goodCells; rw [hinv.2, d9 hge, A6]; simp)))
  ·intro h15
   refine D2 (A2 ?_)
   refine A5 rfl rfl rfl rfl rfl ?_
   refine A1 rfl rfl rfl (B3 0 rfl G5 rfl F5 (A0 rfl) rfl) ?_
   refine A1 rfl rfl rfl (B1 0 rfl (A0 rfl) rfl H1 rfl) ?_
   refine A1 rfl rfl rfl (L9 rfl E4 F5 Tryz.zeroValue9 rfl rfl rfl rfl (E0 (A0 rfl) (P6 _) H6) rfl rfl) ?_
   refine L5 (by' := 16) 1 rfl rfl rfl rfl E4 Tryz.type9 rfl rfl rfl rfl rfl rfl (A0 rfl) (A0 rfl) rfl (by first | omega | (simp only [A6, A7, B2, B7, A8, szR] at *; omega)) ?_
   intro v20_1
   refine B9 rfl rfl rfl rfl rfl ?_
   refine A4 (A2 ?_)
   refine A1 rfl rfl rfl (G7 rfl (A0 rfl) C4 (by first | omega | (simp only [A6, A7, B2, B7, A8, szR] at *; omega))) ?_
   refine A5 rfl rfl rfl rfl rfl ?_
   refine A4 ?_
   refine Q1 i v (i + 1) (v20_1) ?_ ?_ (M1 1 (by exact congrArg (fun z => [Own.arr v20_1 9 1 z]) (V1 (f := fun w : TCell => [AV.str w.Key]) hx)) ⟨rfl, rfl, rfl, rfl, rfl, trivial⟩)
   ·exact ⟨by omega, by rw [hinv.2, s7 hx (by simpa using h15)]⟩
   ·omega
 ·intro h10
  have k10 := of_decide_eq_false h10; try simp only [A6] at k10
  have hge : l.length ≤ i := by omega
  rw [List.take_of_length_le hge, show (l.map fun w => [AV.str w.Key]) = (cKeys l).map (fun k => [AV.str k]) from by unfold cKeys; rw [List.map_map]; rfl]
  refine H3 ?_
  refine A3 (A2 ?_)
  refine A5 rfl rfl rfl rfl rfl ?_
  refine A1 rfl rfl rfl (G9 rfl D8 (A0 rfl)) ?_
  refine A1 rfl rfl rfl (U5 rfl (A0 rfl) C4) ?_
  refine A5 rfl rfl rfl rfl rfl ?_
  refine B4 rfl rfl (C2 rfl rfl rfl) (fun hc => C6 rfl (A0 rfl)) ?_
  refine B4 rfl rfl (C2 rfl rfl rfl) (fun hc => V8 rfl Tryz.call155 rfl (t8 (cKeys l) hks) (G3 _) (N3 (Ab0 0 (B0 rfl hc) rfl) U3)) ?_
  refine A1 rfl rfl rfl (I6 rfl (A0 rfl) (G4 rfl)) ?_
  refine B9 rfl rfl rfl rfl rfl ?_
  refine A4 ?_
  refine C8 ?_
  exact H9 rfl (C5 rfl (by first | exact congrArg AV.bool (by unfold goodCells; rw [hinv.2, p6 hx (by simpa using h15)]; rfl) | exact congrArg AV.bool (by unfold goodCells; rw [hinv.2, d9 hge, A6]; simp)))
theorem AT4 (l : List TCell) (hs : sizeL TCell.size l ≤ 4194304) : FSpec Tryz.prog 201 [AV.list 2 (l.map TCell.cs)] (AV.bool (l3Good l)) := by
 refine E7 Tryz.func201 rfl Tryz.ntmps201 rfl ?_
 refine T1 (t := 0) rfl fun hl => ?_
 try simp only [A6] at hl
 refine A3 (A2 ?_)
 refine A1 rfl rfl rfl (C3 rfl F4) ?_
 refine A4 (A3 (A3 (A2 ?_)))
 refine A5 rfl rfl rfl rfl rfl ?_
 refine A1 rfl rfl rfl (G9 rfl D8 (A0 rfl)) ?_
 refine A1 rfl rfl rfl (C6 rfl C4) ?_
 refine A4 (D7 ?_)
 refine J9 [(0, _), (5, _), (6, _)] _ (fun (i : Nat) => i ≤ l.length ∧ (l.all l3Cell && adj cLess l) = ((l.drop i).all l3Cell && adj cLess (l.drop (i - 1)))) (fun (i : Nat) => []) (fun (i : Nat) => [(7, AV.int i)]) (fun (i : Nat) => l.length - i) (0) ?_ (J8 ⟨rfl, rfl, rfl, rfl, trivial⟩) ?_
 ·exact ⟨Nat.zero_le _, rfl⟩
 intro i hinv
 refine A3 (A2 ?_)
 refine A1 rfl rfl rfl (K6 rfl (A0 rfl) (A0 rfl)) ?_
 refine A4 (A3 ?_)
 refine C7 (A0 rfl) ?_ ?_
 ·intro h8
  have k8 := of_decide_eq_true h8; try simp only [A6] at k8
  have hlt : i < l.length := by omega
  obtain ⟨x, hx⟩ := get_some hlt
  obtain ⟨y, hy⟩ := get_some (show i - 1 < l.length by omega)
  have hsx : x.size ≤ 4194304 := Nat.le_trans (V6 hx) hs
  refine D2 (A3 (D7 (A3 (A2 ?_))))
  refine A5 rfl rfl rfl rfl rfl ?_
  refine A1 rfl rfl rfl (I7 rfl D8 F0 (A0 rfl) (A0 rfl) hx (by first | omega | (simp only [A6, A7, B2, B7, A8, szR] at *; omega))) ?_
  refine A1 rfl rfl rfl (K4 rfl (A0 rfl) S9 F0) ?_
  refine G0 rfl rfl rfl rfl Tryz.zeroValue142 rfl ?_
  intro b4
  refine B9 rfl rfl rfl rfl rfl ?_
  refine D5 0 rfl rfl rfl (A0 rfl) (A0 rfl) (E2 _) rfl F0 rfl ?_
  refine A4 (A3 ?_)
  refine K3 (by kernel_rfl) (by kernel_rfl) rfl ?_
  refine B5 rfl rfl (F2 0 rfl (A0 rfl) rfl S9 F0 rfl) ?_
  refine B5 rfl rfl (E5 rfl Tryz.call260 rfl (Aq9 _ (by first | assumption | omega)) (A9 (A0 rfl) D1)) ?_
  refine B5 rfl rfl (M2 rfl (A0 rfl)) ?_
  refine B5 rfl rfl (C6 rfl (A0 rfl)) ?_
  refine E1 rfl (D4 rfl rfl rfl) (fun hc => C6 rfl (A0 rfl)) ?_
  refine E1 rfl (D4 rfl rfl rfl) (fun hc => P8 rfl (B0 rfl hc) C4) ?_
  refine E1 rfl (D4 rfl rfl rfl) (fun hc => C6 rfl (B0 rfl hc)) ?_
  refine E1 rfl (E8 rfl rfl rfl) (fun hc => C6 rfl (A0 rfl)) ?_
  refine E1 rfl (E8 rfl rfl rfl) (fun hc => C6 rfl (A0 rfl)) ?_
  refine E1 rfl (E8 rfl rfl rfl) (fun hc => Q0 rfl (B0 rfl hc) C4 (by first | omega | ((try simp only [A6, A7, B2, B7, A8, szR] at *); omega) | (have hc2 := hc; simp only [Bool.and_eq_true, Bool.or_eq_true, Bool.or_eq_false_iff, Bool.and_eq_false_iff, Bool.not_eq_true', Bool.not_eq_false', decide_eq_true_eq, decide_eq_false_iff_not, beq_iff_eq, bne_iff_ne, A6, A7] at hc2; omega))) ?_
  refine E1 rfl (E8 rfl rfl rfl) (fun hc => I7 rfl D8 F0 (B0 rfl hc) (B0 rfl hc) hy (by first | omega | ((try simp only [A6, A7, B2, B7, A8, szR] at *); omega) | (have hc2 := hc; simp only [Bool.and_eq_true, Bool.or_eq_true, Bool.or_eq_false_iff, Bool.and_eq_false_iff, Bool.not_eq_true', Bool.not_eq_false', decide_eq_true_eq, decide_eq_false_iff_not, beq_iff_eq, bne_iff_ne, A6, A7] at hc2; omega))) ?_
  refine E1 rfl (E8 rfl rfl rfl) (fun hc => W7 rfl G5 rfl F5 (B0 rfl hc) rfl) ?_
  refine E1 rfl (E8 rfl rfl rfl) (fun hc => N6 rfl (B0 rfl hc) H1 rfl) ?_
  refine E1 rfl (E8 rfl rfl rfl) (fun hc => B3 0 rfl G5 rfl F5 (A0 rfl) rfl) ?_
  refine E1 rfl (E8 rfl rfl rfl) (fun hc => B1 0 rfl (B0 rfl hc) rfl H1 rfl) ?_
  refine E1 rfl (E8 rfl rfl rfl) (fun hc => Aj6 rfl (B0 rfl hc) (B0 rfl hc)) ?_
  refine E1 rfl (D4 rfl rfl rfl) (fun hc => I6 rfl (B0 rfl hc) (S0 rfl hc)) ?_
  refine B5 rfl rfl (Q4 rfl (A0 rfl) (G4 rfl)) ?_
  refine O1 ?_
  refine C7 (A0 rfl) ?_ ?_
  ·intro h29
   have hfin : l3Good l = false := by unfold l3Good; rw [hinv.2]; cases hg : l3Cell x with | false => (rw [p6 hx hg]; simp) | true => (have hb : 0 < i ∧ cLess y x = false := (by unfold cLess; simp_all; try grind); rw [s6 hx hy hb.1 hb.2]; simp)
   refine A3 (A2 ?_)
   refine A1 rfl rfl rfl (C3 rfl F4) ?_
   refine A4 ?_
   refine C8 ?_
   exact H9 rfl (C5 rfl (by first | exact congrArg AV.bool hfin.symm | exact congrArg AV.bool (by unfold l3Good; rw [hinv.2, d9 hge, d8 hge, A6]; simp)))
  ·intro h29
   have hg : l3Cell x = true ∧ (0 < i → cLess y x = true) := by unfold cLess; simp_all
   refine D2 (A2 ?_)
   refine A1 rfl rfl rfl (G7 rfl (A0 rfl) C4 (by first | omega | (simp only [A6, A7, B2, B7, A8, szR] at *; omega))) ?_
   refine A5 rfl rfl rfl rfl rfl ?_
   refine A4 ?_
   refine L4 i (i + 1) ?_ ?_ (T9 1 ⟨rfl, rfl, rfl, rfl, trivial⟩)
   ·exact ⟨by omega, by rw [hinv.2, s7 hx hg.1, s5 hx hy hg.2]⟩
   ·omega
 ·intro h8
  have k8 := of_decide_eq_false h8; try simp only [A6] at k8
  have hge : l.length ≤ i := by omega
  refine H3 ?_
  refine A3 (A2 ?_)
  refine A5 rfl rfl rfl rfl rfl ?_
  refine A1 rfl rfl rfl (G9 rfl D8 (A0 rfl)) ?_
  refine A1 rfl rfl rfl (U5 rfl (A0 rfl) C4) ?_
  refine B9 rfl rfl rfl rfl rfl ?_
  refine A4 ?_
  refine C8 ?_
  exact H9 rfl (C5 rfl (by first | exact congrArg AV.bool hfin.symm | exact congrArg AV.bool (by unfold l3Good; rw [hinv.2, d9 hge, d8 hge, A6]; simp)))
theorem Ac1 (c : TCell) (k : Str) : FSpec Tryz.prog 249 [AV.agg c.cs, AV.str k] (AV.int (cCmp k c)) := by
 refine E7 Tryz.func249 rfl Tryz.ntmps249 rfl ?_
 refine A3 (A2 ?_)
 refine M3 rfl rfl rfl rfl (A0 rfl) ?_
 intro b2
 refine A1 rfl rfl rfl (C3 rfl C4) ?_
 refine A4 (A3 (A2 ?_))
 refine A1 rfl rfl rfl (B3 0 rfl G5 rfl F5 (A0 rfl) rfl) ?_
 refine A1 rfl rfl rfl (B1 0 rfl (A0 rfl) rfl H1 rfl) ?_
 refine A5 rfl rfl rfl rfl rfl ?_
 refine A1 rfl rfl rfl (E5 rfl Tryz.call250 rfl (AT2 _ _) (A9 (A0 rfl) (A9 (A0 rfl) D1))) ?_
 refine B9 rfl rfl rfl rfl rfl ?_
 refine A4 ?_
 refine C8 ?_
 exact H9 rfl (C5 rfl (by first | rfl | (refine congrArg AV.bool ?_; simp_all; done)))
theorem AA4 (l : List TCell) (k : Str) (hs : l.length ≤ 4611686018427387903) : FSpec Tryz.prog 189 [AV.list 2 (l.map TCell.cs), AV.str k] (AV.tup [AV.int (cPos l k), AV.bool (cHas l k)]) := by
 refine E7 Tryz.func189 rfl Tryz.ntmps189 rfl ?_
 refine A3 (A2 ?_)
 refine A1 rfl rfl rfl (C3 rfl C4) ?_
 refine A1 rfl rfl rfl (C3 rfl F4) ?_
 refine A4 (A3 (A2 ?_))
 refine A5 rfl rfl rfl rfl rfl ?_
 refine A5 rfl rfl rfl rfl rfl ?_
 refine A1 rfl rfl rfl (E5 rfl Tryz.call248 rfl (AH4 _ _ _ (by first | (intros; trivial) | assumption | (intros; first | trivial | (simp_all; done))) _ (by omega)) (A9 (A0 rfl) (A9 (A0 rfl) (A9 (AQ6 Tryz.call249 (fun c k (_ : True) => Ac1 c k)) D1)))) ?_
 refine A1 rfl rfl rfl (F6 rfl (A0 rfl) rfl) ?_
 refine A1 rfl rfl rfl (F6 rfl (A0 rfl) rfl) ?_
 refine B9 rfl rfl rfl rfl rfl ?_
 refine B9 rfl rfl rfl rfl rfl ?_
 refine A4 ?_
 refine C8 ?_
 exact X2 rfl (by decide) (E6 (C5 rfl (by first | rfl | (refine congrArg AV.bool ?_; simp_all; done))) (E6 (C5 rfl (by first | rfl | (refine congrArg AV.bool ?_; simp_all; done))) K8))
theorem Af8 {c : TCell} (h : 1 ≤ c.Vers.length) : ∃ v, c.Vers[c.Vers.length - 1]? = some v ∧ lastV c = v.Time := by
  obtain ⟨v, hv⟩ := get_some (show c.Vers.length - 1 < c.Vers.length by omega)
  refine ⟨v, hv, ?_⟩
  unfold lastV; rw [List.getLast?_eq_getElem?, hv]
theorem AA5 (l : List TCell) (k : Str) (ho : CellsOk l) (hs : sizeL TCell.size l ≤ 4194304) : FSpec Tryz.prog 93 [AV.list 2 (l.map TCell.cs), AV.str k] (AV.int (lastTime l k)) := by
 have hl : l.length ≤ 4194304 := Nat.le_trans O2 hs
 refine E7 Tryz.func93 rfl Tryz.ntmps93 rfl ?_
 refine A3 (A2 ?_)
 refine A1 rfl rfl rfl (C3 rfl C4) ?_
 refine A4 (A3 (A2 ?_))
 refine A5 rfl rfl rfl rfl rfl ?_
 refine A5 rfl rfl rfl rfl rfl ?_
 refine A1 rfl rfl rfl (E5 rfl Tryz.call189 rfl (AA4 _ _ (by first | assumption | omega)) (A9 (A0 rfl) (A9 (A0 rfl) D1))) ?_
 refine A5 rfl rfl rfl rfl rfl ?_
 refine A1 rfl rfl rfl (F6 rfl (A0 rfl) rfl) ?_
 refine A1 rfl rfl rfl (F6 rfl (A0 rfl) rfl) ?_
 refine B9 rfl rfl rfl rfl rfl ?_
 refine B9 rfl rfl rfl rfl rfl ?_
 refine A4 (A3 (A3 (A2 ?_)))
 refine A5 rfl rfl rfl rfl rfl ?_
 refine A1 rfl rfl rfl (M2 rfl (A0 rfl)) ?_
 refine A4 ?_
 refine C7 (A0 rfl) ?_ ?_
 ·intro h14
  have hn : cHas l k = false := by simpa using h14
  have he : lastTime l k = 0 := by unfold lastTime; rw [AV6 ho.1, hn]; rfl
  rw [he]
  refine A3 (A2 ?_)
  refine A1 rfl rfl rfl (C3 rfl C4) ?_
  refine A4 ?_
  refine C8 ?_
  exact H9 rfl (C5 rfl (by first | rfl | (refine congrArg AV.bool ?_; simp_all; done)))
 ·intro h14
  have hn : cHas l k = true := by simpa using h14
  obtain ⟨c, hc, hck⟩ := s8.1 hn
  obtain ⟨v, hv, hlv⟩ := Af8 (ho.2 c (G6 hc))
  have hcl := d5 (Nat.le_trans (V6 hc) hs)
  have hc1 := ho.2 c (G6 hc)
  have he : lastTime l k = v.Time := by unfold lastTime; rw [AV6 ho.1, hn, if_pos rfl, hc]; exact hlv
  rw [he]
  refine D2 (A3 ?_)
  refine K3 (by kernel_rfl) (by kernel_rfl) rfl ?_
  refine B5 rfl rfl (C6 rfl (A0 rfl)) ?_
  refine B5 rfl rfl (C6 rfl (A0 rfl)) ?_
  refine B5 rfl rfl (I7 rfl D8 F0 (A0 rfl) (A0 rfl) hc (by first | omega | (simp only [A6, A7, B2, B7, A8, szR] at *; omega))) ?_
  refine B5 rfl rfl (W7 rfl G5 rfl M0 (A0 rfl) rfl) ?_
  refine B5 rfl rfl (N6 rfl (A0 rfl) P4 rfl) ?_
  refine B5 rfl rfl (C6 rfl (A0 rfl)) ?_
  refine B5 rfl rfl (C6 rfl (A0 rfl)) ?_
  refine B5 rfl rfl (I7 rfl D8 F0 (A0 rfl) (A0 rfl) hc (by first | omega | (simp only [A6, A7, B2, B7, A8, szR] at *; omega))) ?_
  refine B5 rfl rfl (W7 rfl G5 rfl M0 (A0 rfl) rfl) ?_
  refine B5 rfl rfl (N6 rfl (A0 rfl) P4 rfl) ?_
  refine B5 rfl rfl (G9 rfl I5 (A0 rfl)) ?_
  refine B5 rfl rfl (Q0 rfl (A0 rfl) C4 (by first | omega | (simp only [A6, A7, B2, B7, A8, szR] at *; omega))) ?_
  refine B5 rfl rfl (I7 rfl I5 N2 (A0 rfl) (A0 rfl) hv (by first | omega | (simp only [A6, A7, B2, B7, A8, szR] at *; omega))) ?_
  refine B5 rfl rfl (W7 rfl P2 rfl C0 (A0 rfl) rfl) ?_
  refine B5 rfl rfl (N6 rfl (A0 rfl) D0 rfl) ?_
  refine B5 rfl rfl (C3 rfl (A0 rfl)) ?_
  refine O1 ?_
  refine C8 ?_
  exact H9 rfl (C5 rfl (by first | rfl | (refine congrArg AV.bool ?_; simp_all; done)))
theorem Af9 (l : List TCell) (k : Str) : FSpec Tryz.prog 261 [AV.list 2 (l.map TCell.cs), AV.str k] (AV.int (atC l k)) := by
 refine E7 Tryz.func261 rfl Tryz.ntmps261 rfl ?_
 refine T1 (t := 0) rfl fun hl => ?_
 try simp only [A6] at hl
 refine A3 (A2 ?_)
 refine A1 rfl rfl rfl (C3 rfl C4) ?_
 refine A4 (A3 (A3 (A2 ?_)))
 refine A5 rfl rfl rfl rfl rfl ?_
 refine A1 rfl rfl rfl (G9 rfl D8 (A0 rfl)) ?_
 refine A1 rfl rfl rfl (C6 rfl C4) ?_
 refine A4 (D7 ?_)
 refine J9 [(1, _), (7, _), (8, _)] _ (fun (i : Nat) => i ≤ l.length ∧ ∀ j x, j < i → l[j]? = some x → x.Key ≠ k) (fun (i : Nat) => []) (fun (i : Nat) => [(9, AV.int i)]) (fun (i : Nat) => l.length - i) (0) ?_ (J8 ⟨rfl, rfl, rfl, rfl, trivial⟩) ?_
 ·exact ⟨Nat.zero_le _, fun j x h => by omega⟩
 intro i hinv
 refine A3 (A2 ?_)
 refine A1 rfl rfl rfl (K6 rfl (A0 rfl) (A0 rfl)) ?_
 refine A4 (A3 ?_)
 refine C7 (A0 rfl) ?_ ?_
 ·intro h10
  have k10 := of_decide_eq_true h10; try simp only [A6] at k10
  have hlt : i < l.length := by omega
  obtain ⟨x, hx⟩ := get_some hlt
  refine D2 (A3 (D7 (A3 (A2 ?_))))
  refine A5 rfl rfl rfl rfl rfl ?_
  refine A1 rfl rfl rfl (I7 rfl D8 F0 (A0 rfl) (A0 rfl) hx (by first | omega | (simp only [A6, A7, B2, B7, A8, szR] at *; omega))) ?_
  refine A1 rfl rfl rfl (K4 rfl (A0 rfl) S9 F0) ?_
  refine G0 rfl rfl rfl rfl Tryz.zeroValue142 rfl ?_
  intro b6
  refine B9 rfl rfl rfl rfl rfl ?_
  refine D5 0 rfl rfl rfl (A0 rfl) (A0 rfl) (E2 _) rfl F0 rfl ?_
  refine A4 (A3 (A2 ?_))
  refine A1 rfl rfl rfl (B3 0 rfl G5 rfl F5 (A0 rfl) rfl) ?_
  refine A1 rfl rfl rfl (B1 0 rfl (A0 rfl) rfl H1 rfl) ?_
  refine A5 rfl rfl rfl rfl rfl ?_
  refine A1 rfl rfl rfl (y5 rfl (A0 rfl) (A0 rfl)) ?_
  refine A4 ?_
  refine C7 (A0 rfl) ?_ ?_
  ·intro h17
   refine A3 (A2 ?_)
   refine A5 rfl rfl rfl rfl rfl ?_
   refine B9 rfl rfl rfl rfl rfl ?_
   refine A4 ?_
   refine C8 ?_
   exact H9 rfl (C5 rfl (by first | exact congrArg AV.int (Al1 hx (by simpa using h17) hinv.2).symm | exact congrArg AV.int (Al2 fun j x hx => hinv.2 j x (Nat.lt_of_lt_of_le (List.getElem?_eq_some_iff.1 hx).1 hge) hx).symm))
  ·intro h17
   refine D2 (A2 ?_)
   refine A1 rfl rfl rfl (G7 rfl (A0 rfl) C4 (by first | omega | (simp only [A6, A7, B2, B7, A8, szR] at *; omega))) ?_
   refine A5 rfl rfl rfl rfl rfl ?_
   refine A4 ?_
   refine L4 i (i + 1) ?_ ?_ (T9 1 ⟨rfl, rfl, rfl, rfl, trivial⟩)
   ·exact ⟨by omega, fun j y hj hy => if hji : j < i then hinv.2 j y hji hy else (by have e : j = i := (by omega); subst e; rw [hx] at hy; injection hy with hy; subst hy; simpa using h17)⟩
   ·omega
 ·intro h10
  have k10 := of_decide_eq_false h10; try simp only [A6] at k10
  have hge : l.length ≤ i := by omega
  refine H3 ?_
  refine A3 (A2 ?_)
  refine A1 rfl rfl rfl (C3 rfl C4) ?_
  refine A4 ?_
  refine C8 ?_
  exact H9 rfl (C5 rfl (by first | exact congrArg AV.int (Al1 hx (by simpa using h17) hinv.2).symm | exact congrArg AV.int (Al2 fun j x hx => hinv.2 j x (Nat.lt_of_lt_of_le (List.getElem?_eq_some_iff.1 hx).1 hge) hx).symm))
theorem AG2 (l : List TCell) (k : Str) (ho : CellsOk l) (hs : sizeL TCell.size l ≤ 4194304) : FSpec Tryz.prog 203 [AV.list 2 (l.map TCell.cs), AV.str k] (AV.int (lastTime l k)) := by
 have hl : l.length ≤ 4194304 := Nat.le_trans O2 hs
 refine E7 Tryz.func203 rfl Tryz.ntmps203 rfl ?_
 refine A3 (A2 ?_)
 refine A1 rfl rfl rfl (C3 rfl C4) ?_
 refine A4 (A3 (A2 ?_))
 refine A5 rfl rfl rfl rfl rfl ?_
 refine A5 rfl rfl rfl rfl rfl ?_
 refine A1 rfl rfl rfl (E5 rfl Tryz.call261 rfl (Af9 _ _) (A9 (A0 rfl) (A9 (A0 rfl) D1))) ?_
 refine B9 rfl rfl rfl rfl rfl ?_
 refine A4 (A3 (A3 (A2 ?_)))
 refine A5 rfl rfl rfl rfl rfl ?_
 refine A1 rfl rfl rfl (K6 rfl (A0 rfl) C4) ?_
 refine A4 ?_
 refine C7 (A0 rfl) ?_ ?_
 ·intro h10
  have k10 := of_decide_eq_true h10; try simp only [A6] at k10
  have hn : findC l k = none := At7 k10
  have he : lastTime l k = 0 := by unfold lastTime; rw [hn]
  rw [he]
  refine A3 (A2 ?_)
  refine A1 rfl rfl rfl (C3 rfl C4) ?_
  refine A4 ?_
  refine C8 ?_
  exact H9 rfl (C5 rfl (by first | rfl | (refine congrArg AV.bool ?_; simp_all; done)))
 ·intro h10
  have k10 := of_decide_eq_false h10; try simp only [A6] at k10
  obtain ⟨p, c, hp, hc, hf⟩ := At8 k10
  rw [hp]
  obtain ⟨v, hv, hlv⟩ := Af8 (ho.2 c (G6 hc))
  have hcl := d5 (Nat.le_trans (V6 hc) hs)
  have hc1 := ho.2 c (G6 hc)
  have he : lastTime l k = v.Time := by unfold lastTime; rw [hf]; exact hlv
  rw [he]
  refine D2 (A3 ?_)
  refine K3 (by kernel_rfl) (by kernel_rfl) rfl ?_
  refine B5 rfl rfl (C6 rfl (A0 rfl)) ?_
  refine B5 rfl rfl (C6 rfl (A0 rfl)) ?_
  refine B5 rfl rfl (I7 rfl D8 F0 (A0 rfl) (A0 rfl) hc (by first | omega | (simp only [A6, A7, B2, B7, A8, szR] at *; omega))) ?_
  refine B5 rfl rfl (W7 rfl G5 rfl M0 (A0 rfl) rfl) ?_
  refine B5 rfl rfl (N6 rfl (A0 rfl) P4 rfl) ?_
  refine B5 rfl rfl (C6 rfl (A0 rfl)) ?_
  refine B5 rfl rfl (C6 rfl (A0 rfl)) ?_
  refine B5 rfl rfl (I7 rfl D8 F0 (A0 rfl) (A0 rfl) hc (by first | omega | (simp only [A6, A7, B2, B7, A8, szR] at *; omega))) ?_
  refine B5 rfl rfl (W7 rfl G5 rfl M0 (A0 rfl) rfl) ?_
  refine B5 rfl rfl (N6 rfl (A0 rfl) P4 rfl) ?_
  refine B5 rfl rfl (G9 rfl I5 (A0 rfl)) ?_
  refine B5 rfl rfl (Q0 rfl (A0 rfl) C4 (by first | omega | (simp only [A6, A7, B2, B7, A8, szR] at *; omega))) ?_
  refine B5 rfl rfl (I7 rfl I5 N2 (A0 rfl) (A0 rfl) hv (by first | omega | (simp only [A6, A7, B2, B7, A8, szR] at *; omega))) ?_
  refine B5 rfl rfl (W7 rfl P2 rfl C0 (A0 rfl) rfl) ?_
  refine B5 rfl rfl (N6 rfl (A0 rfl) D0 rfl) ?_
  refine B5 rfl rfl (C3 rfl (A0 rfl)) ?_
  refine O1 ?_
  refine C8 ?_
  exact H9 rfl (C5 rfl (by first | rfl | (refine congrArg AV.bool ?_; simp_all; done)))
theorem AZ1 (a b : List TCell) (hs : sizeL TCell.size a ≤ 4194304) : FSpec Tryz.prog 87 [AV.list 2 (a.map TCell.cs), AV.list 2 (b.map TCell.cs)] (AV.bool (decide (a = b))) := by
 refine E7 Tryz.func87 rfl Tryz.ntmps87 rfl ?_
 refine T1 (t := 0) rfl fun hl => ?_
 try simp only [A6] at hl
 refine A3 (A2 ?_)
 refine A1 rfl rfl rfl (C3 rfl F4) ?_
 refine A4 (A3 (A3 (A2 ?_)))
 refine A5 rfl rfl rfl rfl rfl ?_
 refine A1 rfl rfl rfl (G9 rfl D8 (A0 rfl)) ?_
 refine A5 rfl rfl rfl rfl rfl ?_
 refine A1 rfl rfl rfl (G9 rfl D8 (A0 rfl)) ?_
 refine A1 rfl rfl rfl (g8 rfl (A0 rfl) (A0 rfl)) ?_
 refine A4 ?_
 refine C7 (A0 rfl) ?_ ?_
 ·intro h13
  have k13 := i9 h13; try simp only [A6] at k13
  have hab : a ≠ b := by intro hc; subst hc; exact k13 rfl
  refine A3 (A2 ?_)
  refine A1 rfl rfl rfl (C3 rfl F4) ?_
  refine A4 ?_
  refine C8 ?_
  exact H9 rfl (C5 rfl (by exact congrArg AV.bool (by simp [hab])))
 ·intro h13
  have k13 := V5 h13; try simp only [A6] at k13
  have heq : a.length = b.length := by omega
  refine D2 (A3 (A3 (A2 ?_)))
  refine A5 rfl rfl rfl rfl rfl ?_
  refine A1 rfl rfl rfl (G9 rfl D8 (A0 rfl)) ?_
  refine A1 rfl rfl rfl (C6 rfl C4) ?_
  refine A4 (D7 ?_)
  refine J9 [(1, _), (14, _), (15, _)] _ (fun (i : Nat) => i ≤ a.length ∧ a.take i = b.take i) (fun (i : Nat) => []) (fun (i : Nat) => [(16, AV.int i)]) (fun (i : Nat) => a.length - i) (0) ?_ (J8 ⟨rfl, rfl, rfl, rfl, trivial⟩) ?_
  ·exact ⟨Nat.zero_le _, rfl⟩
  intro i hinv
  refine A3 (A2 ?_)
  refine A1 rfl rfl rfl (K6 rfl (A0 rfl) (A0 rfl)) ?_
  refine A4 (A3 ?_)
  refine C7 (A0 rfl) ?_ ?_
  ·intro h17
   have k17 := of_decide_eq_true h17; try simp only [A6] at k17
   have hlt : i < a.length := by omega
   obtain ⟨x, hx⟩ := get_some hlt
   obtain ⟨y, hy⟩ := get_some (show i < b.length by omega)
   refine D2 (A3 (D7 (A3 (A2 ?_))))
   refine A5 rfl rfl rfl rfl rfl ?_
   refine A1 rfl rfl rfl (I7 rfl D8 F0 (A0 rfl) (A0 rfl) hx (by first | omega | (simp only [A6, A7, B2, B7, A8, szR] at *; omega))) ?_
   refine A1 rfl rfl rfl (K4 rfl (A0 rfl) S9 F0) ?_
   refine G0 rfl rfl rfl rfl Tryz.zeroValue142 rfl ?_
   intro b6
   refine B9 rfl rfl rfl rfl rfl ?_
   refine D5 0 rfl rfl rfl (A0 rfl) (A0 rfl) (E2 _) rfl F0 rfl ?_
   refine A4 (A3 (A2 ?_))
   refine A5 rfl rfl rfl rfl rfl ?_
   refine A5 rfl rfl rfl rfl rfl ?_
   refine A1 rfl rfl rfl (I7 rfl D8 F0 (A0 rfl) (A0 rfl) hy (by first | omega | (simp only [A6, A7, B2, B7, A8, szR] at *; omega))) ?_
   refine A1 rfl rfl rfl (K4 rfl (A0 rfl) S9 F0) ?_
   refine G0 rfl rfl rfl rfl Tryz.zeroValue142 rfl ?_
   intro b7
   refine D5 0 rfl rfl rfl (A0 rfl) (A0 rfl) (E2 _) rfl F0 rfl ?_
   refine A4 (A3 (A3 (A2 ?_)))
   refine A1 rfl rfl rfl (B3 0 rfl G5 rfl F5 (A0 rfl) rfl) ?_
   refine A1 rfl rfl rfl (B1 1 rfl (A0 rfl) rfl H1 rfl) ?_
   refine A1 rfl rfl rfl (B3 0 rfl G5 rfl F5 (A0 rfl) rfl) ?_
   refine A1 rfl rfl rfl (B1 0 rfl (A0 rfl) rfl H1 rfl) ?_
   refine A1 rfl rfl rfl (AM5 rfl (A0 rfl) (A0 rfl)) ?_
   refine A5 rfl rfl rfl rfl rfl ?_
   refine B4 rfl rfl (D4 rfl rfl rfl) (fun hc => B3 1 rfl G5 rfl M0 (A0 rfl) rfl) ?_
   refine B4 rfl rfl (D4 rfl rfl rfl) (fun hc => B1 1 rfl (B0 rfl hc) rfl P4 rfl) ?_
   refine B4 rfl rfl (D4 rfl rfl rfl) (fun hc => G9 rfl I5 (B0 rfl hc)) ?_
   refine B4 rfl rfl (D4 rfl rfl rfl) (fun hc => B3 1 rfl G5 rfl M0 (A0 rfl) rfl) ?_
   refine B4 rfl rfl (D4 rfl rfl rfl) (fun hc => B1 0 rfl (B0 rfl hc) rfl P4 rfl) ?_
   refine B4 rfl rfl (D4 rfl rfl rfl) (fun hc => G9 rfl I5 (B0 rfl hc)) ?_
   refine B4 rfl rfl (D4 rfl rfl rfl) (fun hc => g8 rfl (B0 rfl hc) (B0 rfl hc)) ?_
   refine A1 rfl rfl rfl (Q4 rfl (A0 rfl) (G4 rfl)) ?_
   refine A4 ?_
   refine C7 (A0 rfl) ?_ ?_
   ·intro h38
    have hab : a ≠ b := by intro hc; subst hc; rw [hx] at hy; injection hy with hy; subst hy; simp at h38
    refine A3 (A2 ?_)
    refine A1 rfl rfl rfl (C3 rfl F4) ?_
    refine A4 ?_
    refine C8 ?_
    exact H9 rfl (C5 rfl (by exact congrArg AV.bool (by simp [hab])))
   ·intro h38
    have hke : x.Key = y.Key ∧ x.Vers.length = y.Vers.length := by simp at h38; exact ⟨h38.1, by omega⟩
    refine D2 (A3 (A2 ?_))
    refine A1 rfl rfl rfl (B3 1 rfl G5 rfl M0 (A0 rfl) rfl) ?_
    refine A1 rfl rfl rfl (B1 1 rfl (A0 rfl) rfl P4 rfl) ?_
    refine A1 rfl rfl rfl (G9 rfl I5 (A0 rfl)) ?_
    refine A1 rfl rfl rfl (C6 rfl C4) ?_
    refine A4 (D7 ?_)
    have hinvo := hinv
    have hxl := (d5 (Nat.le_trans (V6 hx) hs)).2.1
    refine J9 [(1, _), (5, _), (6, _), (7, _), (14, _), (15, _), (16, _), (17, _), (18, _), (19, _), (20, _), (21, _), (22, _), (23, _), (24, _), (25, _), (26, _), (27, _), (28, _), (29, _), (30, _), (38, _), (39, _), (40, _), (41, _)] _ (fun (q : Nat) => q ≤ x.Vers.length ∧ x.Vers.take q = y.Vers.take q) (fun (q : Nat) => []) (fun (q : Nat) => [(42, AV.int q)]) (fun (q : Nat) => x.Vers.length - q) (0) ?_ (J8 ⟨rfl, rfl, rfl, rfl, rfl, rfl, rfl, rfl, rfl, rfl, rfl, rfl, rfl, rfl, rfl, rfl, rfl, rfl, rfl, rfl, rfl, rfl, rfl, rfl, rfl, rfl, trivial⟩) ?_
    ·exact ⟨Nat.zero_le _, rfl⟩
    intro q hinv
    refine A3 (A2 ?_)
    refine A1 rfl rfl rfl (K6 rfl (A0 rfl) (A0 rfl)) ?_
    refine A4 (A3 ?_)
    refine C7 (A0 rfl) ?_ ?_
    ·intro h43
     have k43 := of_decide_eq_true h43; try simp only [A6] at k43
     have hltq : q < x.Vers.length := by omega
     obtain ⟨u, hu⟩ := get_some hltq
     obtain ⟨w, hw⟩ := get_some (show q < y.Vers.length by omega)
     refine D2 (A3 (D7 (A3 (A2 ?_))))
     refine A5 rfl rfl rfl rfl rfl ?_
     refine B9 rfl rfl rfl rfl rfl ?_
     refine A4 (A3 ?_)
     refine K3 (by kernel_rfl) (by kernel_rfl) rfl ?_
     refine B5 rfl rfl (B3 1 rfl G5 rfl M0 (A0 rfl) rfl) ?_
     refine B5 rfl rfl (B1 1 rfl (A0 rfl) rfl P4 rfl) ?_
     refine B5 rfl rfl (C6 rfl (A0 rfl)) ?_
     refine B5 rfl rfl (I7 rfl I5 N2 (A0 rfl) (A0 rfl) hu (by first | omega | (simp only [A6, A7, B2, B7, A8, szR] at *; omega))) ?_
     refine B5 rfl rfl (K4 rfl (A0 rfl) i8 N2) ?_
     refine B5 rfl rfl (B3 1 rfl G5 rfl M0 (A0 rfl) rfl) ?_
     refine B5 rfl rfl (B1 0 rfl (A0 rfl) rfl P4 rfl) ?_
     refine B5 rfl rfl (C6 rfl (A0 rfl)) ?_
     refine B5 rfl rfl (I7 rfl I5 N2 (A0 rfl) (A0 rfl) hw (by first | omega | (simp only [A6, A7, B2, B7, A8, szR] at *; omega))) ?_
     refine B5 rfl rfl (K4 rfl (A0 rfl) i8 N2) ?_
     refine B5 rfl rfl (AX5 rfl P2 (by kernel_rfl) (by kernel_rfl) (A0 rfl) (A0 rfl) (c4 (by kernel_rfl) D0 rfl rfl (Ab1 Q6) (c4 (by kernel_rfl) H1 rfl rfl (AH0 N4) (c4 (by kernel_rfl) L0 rfl rfl (AI7 T4) AQ8)))) ?_
     refine O1 ?_
     refine C7 (A0 rfl) ?_ ?_
     ·intro h55
      have hab : a ≠ b := by intro hc; subst hc; rw [hx] at hy; injection hy with hy; subst hy; rw [hu] at hw; injection hw with hw; subst hw; simp at h55
      refine A3 (A2 ?_)
      refine A1 rfl rfl rfl (C3 rfl F4) ?_
      refine A4 ?_
      refine C8 ?_
      exact H9 rfl (C5 rfl (by exact congrArg AV.bool (by simp [hab])))
     ·intro h55
      refine D2 (A2 ?_)
      refine A1 rfl rfl rfl (G7 rfl (A0 rfl) C4 (by first | omega | (simp only [A6, A7, B2, B7, A8, szR] at *; omega))) ?_
      refine A5 rfl rfl rfl rfl rfl ?_
      refine A4 ?_
      refine L4 q (q + 1) ?_ ?_ (J8 ⟨rfl, rfl, rfl, rfl, rfl, rfl, rfl, rfl, rfl, rfl, rfl, rfl, rfl, rfl, rfl, rfl, rfl, rfl, rfl, rfl, rfl, rfl, rfl, rfl, rfl, rfl, trivial⟩)
      ·exact ⟨by omega, i4 hinv.2 hu (by rw [hw]; congr 1; first | (simp_all; done) | (cases u; cases w; simp_all))⟩
      ·omega
    ·intro h43
     have k43 := of_decide_eq_false h43; try simp only [A6] at k43
     have hgq : x.Vers.length ≤ q := by omega
     have hxv := n8 hke.2 hinv.2 hgq
     have hxy : x = y := by cases x; cases y; simp only [TCell.mk.injEq]; exact ⟨hke.1, hxv⟩
     refine H3 ?_
     refine A2 ?_
     refine A1 rfl rfl rfl (G7 rfl (A0 rfl) C4 (by first | omega | (simp only [A6, A7, B2, B7, A8, szR] at *; omega))) ?_
     refine A5 rfl rfl rfl rfl rfl ?_
     refine A4 ?_
     refine L4 i (i + 1) ?_ ?_ (T9 2 ⟨rfl, rfl, rfl, rfl, trivial⟩)
     ·exact ⟨by omega, i4 hinvo.2 hx (by rw [hy, hxy])⟩
     ·omega
  ·intro h17
   have k17 := of_decide_eq_false h17; try simp only [A6] at k17
   have hge : a.length ≤ i := by omega
   have hab : a = b := n8 heq hinv.2 hge
   refine H3 ?_
   refine A3 (A2 ?_)
   refine A1 rfl rfl rfl (C3 rfl F4) ?_
   refine A4 ?_
   refine C8 ?_
   exact H9 rfl (C5 rfl (by exact congrArg AV.bool (by simp [hab])))
end Go.Proofs.YtnlhbdkcgaeimaaGreat

set_option linter.unusedVariables false
set_option linter.unusedSimpArgs false
namespace Go.AV
section
variable {P : Program} {G : Nat → Prop} {n : Nat} {own : List Own} {o : Oper}
theorem Ag0 {rest : List Own} : ∀ b, (fun _ : Nat => False) b → b ∈ rest.filterMap Own.blk := fun _ h => h.elim
theorem O5 {rest : List Own} : ∀ b, blksOf [] b → b ∈ rest.filterMap Own.blk := fun _ ⟨_, h, _⟩ => by simp at h
theorem T7 {q q' : Own} {ow rest : List Own} (i : Nat) (h : rest[i]? = some q') (hb : Own.blk q = Own.blk q') (k : ∀ b, blksOf ow b → b ∈ rest.filterMap Own.blk) : ∀ b, blksOf (q :: ow) b → b ∈ rest.filterMap Own.blk := fun b ⟨x, hx, hxb⟩ => by
  rcases List.mem_cons.1 hx with rfl | hx
  · exact List.mem_filterMap.2 ⟨q', G6 h, hb ▸ hxb⟩
  · exact k b ⟨x, hx, hxb⟩
theorem AK2 {sel rest : List Own} {w0 : World} {R0 R : RHeap} {w : World} (h : Core G w0 R0 (sel ++ rest) R w) (hG : ∀ b, G b → b ∈ rest.filterMap Own.blk) : Core G w0 R0 rest (lend sel w R) w := by
  have hl := U8 h
  refine ⟨h.os, h.tape, h.output, h.size, h.block, AQ7 hl, fun b hb => ?_, fun q hq => ?_, fun q hq => h.fresh q (List.mem_append_right _ hq), (AJ0 h).sep⟩
  · unfold lend
    cases hob : ownB sel b with
    | true =>
      obtain ⟨x, hx, hxb⟩ := m4 hob
      rcases h.fresh x (List.mem_append_left _ hx) b hxb with h1 | h1
      · omega
      · obtain ⟨y, hy, hyb⟩ := List.mem_filterMap.1 (hG b h1)
        exact absurd hyb (y9 h.sep hx hy hxb)
    | false => exact h.rold b hb
  · have hk := h.owned q (List.mem_append_right _ hq)
    refine Own.ok_keep hk (f0 hl) fun b hb => ⟨rfl, ?_⟩
    unfold lend
    cases hob : ownB sel b with
    | true =>
      obtain ⟨x, hx, hxb⟩ := m4 hob
      exact absurd hb (y9 h.sep hx hq hxb)
    | false => exact (Own.ok_blk hk hb).1
theorem c7 {env : List (Nat × AV)} {sel rest : List Own} {x y : AV} (is : List Nat) (t : Nat) (hp : pick own is = (sel, rest)) (ht : getv t env = some x) (hl : LendTo sel x y) (hG : ∀ b, G b → b ∈ rest.filterMap Own.blk) : Le G n ⟨own, env⟩ ⟨rest, (t, y) :: env⟩ := fun w0 R0 R a w ⟨h1, h2, h3⟩ => by
  have hc := j3 h1 hp
  refine ⟨lend sel w R, f0 (U8 hc), AK2 hc hG, fun k z hz => ?_, h3⟩
  simp only [getv] at hz
  by_cases hk : t = k
  · subst hk
    simp [Nat.beq_refl] at hz
    rw [← hz]
    exact hl G w0 R0 R w _ (U8 hc) (h2 t x ht)
  · rw [n1 hk, cond_false] at hz
    exact z.mono (f0 (U8 hc)) (h2 k z hz)
theorem AW1 {ops : Array Oper} {rest : List Oper} {env : List (Nat × AV)} {K : AState → Prop} {d : Nat} {c : Bool} (hd : o.dst = some d) (hn : Nat.blt d n = true) (hg : GuardIs ops o (getv · env) c)
    (ht : c = true → ASeq P G n ops ({ o with guard := none } :: rest) ⟨own, env⟩ K) (hf : c = false → ASeq P G n ops rest ⟨own, (d, AV.is undef) :: env⟩ K) : ASeq P G n ops (o :: rest) ⟨own, env⟩ K := fun w0 R0 R a w hs => by
  have hgc := hg R a fun t _ y hy => hs.2.1 t y hy
  cases c with
  | true =>
    refine ⟨fun _ => ?_, fun hw => by rw [hgc] at hw; exact Bool.noConfusion hw⟩
    exact (ht rfl w0 R0 R a w hs).1 rfl
  | false =>
    refine ⟨fun hw => by rw [hgc] at hw; exact Bool.noConfusion hw, fun _ => ⟨_, R, hf rfl, RSub.refl _, ?_⟩⟩
    obtain ⟨h1, h2, h3, h4⟩ := hs
    refine ⟨h1, ?_, by rw [R5]; exact h3, by rw [P3]; exact h4⟩
    have := Z7 (d := o.dst) (x := AV.is undef) (v := undef) h2 (RSub.refl R) (fun q e => by rw [h3]; rw [hd] at e; injection e with e; subst e; exact Nat.blt_eq.mp hn) rfl
    rw [hd] at this ⊢
    exact this
theorem evif_no {E : EnvF} {p : Operand} {b : Bool} {x : AV} (h : b = false) : EvIf E p b x := fun hb => by rw [h] at hb; cases hb
def bandI (x y : Int) : Int := IntKind.u64.wrap (((BitVec.ofInt IntKind.u64.bits x &&& BitVec.ofInt IntKind.u64.bits y).toNat : Nat) : Int)
theorem w_band {E : EnvF} {t ty : TypeId} {p q : Operand} {x y : Int} (ho : o.op = .binOp .and t p q ty) (hp : Ev E p (AV.ik .u64 x)) (hq : Ev E q (AV.ik .u64 y)) : OpW P G n own o E (AV.ik .u64 (bandI x y)) := M4 fun R a w _ he => by
  have h1 : a.eval p = .int .u64 x := H4 hp (by simp [ho, Op.operands]) he
  have h2 : a.eval q = .int .u64 y := H4 hq (by simp [ho, Op.operands]) he
  exact ⟨.int .u64 (bandI x y), by simp only [execOp, ho, h1, h2]; simp [go_sem]; rfl, rfl⟩
end
end Go.AV

set_option linter.unusedVariables false
set_option linter.unusedSimpArgs false
namespace Go.AV
section
variable {P : Program} {G : Nat → Prop} {n : Nat} {own : List Own} {o : Oper}
def OwnC (sel : List Own) : Own → Own → Prop
  | .box b t cs, .box b' t' cs' => b = b' ∧ t = t' ∧ LendC sel cs cs'
  | .arr v t sz es, .arr v' t' sz' es' => v = v' ∧ t = t' ∧ sz = sz' ∧ LendE sel es es'
  | .frz b t cs, .frz b' t' cs' => b = b' ∧ t = t' ∧ LendC sel cs cs'
  | .tab T, .tab T' => T = T'
  | _, _ => False
def OwnsC (sel own own' : List Own) : Prop := own.length = own'.length ∧ ∀ (i : Nat) (q q' : Own), own[i]? = some q → own'[i]? = some q' → OwnC sel q q'
theorem Am3 {sel : List Own} : OwnsC sel [] [] := ⟨rfl, fun i q q' h => by simp at h⟩
theorem Au1 {sel a b : List Own} {q q' : Own} (h : OwnC sel q q') (k : OwnsC sel a b) : OwnsC sel (q :: a) (q' :: b) := ⟨by simp [k.1], fun i x y hx hy => by
  cases i with
  | zero => simp at hx hy; subst hx; subst hy; exact h
  | succ i => exact k.2 i x y (by simpa using hx) (by simpa using hy)⟩
theorem oc_blk {sel : List Own} {q q' : Own} (h : OwnC sel q q') : Own.blk q = Own.blk q' := by
  cases q <;> cases q' <;> unfold OwnC at h
  · exact congrArg some h.1
  · exact h.elim
  · exact h.elim
  · exact h.elim
  · exact h.elim
  · exact congrArg Value.ownBlock h.1
  · exact h.elim
  · exact h.elim
  · exact h.elim
  · exact h.elim
  · exact congrArg some h.1
  · exact h.elim
  · exact h.elim
  · exact h.elim
  · exact h.elim
  · rfl
theorem oc_map {sel a b : List Own} (h : OwnsC sel a b) : a.map Own.blk = b.map Own.blk := by
  refine List.ext_getElem? fun i => ?_
  rw [List.getElem?_map, List.getElem?_map]
  cases ha : a[i]? with
  | none =>
    have : b[i]? = none := by rw [List.getElem?_eq_none_iff] at ha ⊢; rw [← h.1]; exact ha
    rw [this]
  | some q =>
    have hi : i < b.length := by rw [← h.1]; exact (List.getElem?_eq_some_iff.1 ha).1
    rw [List.getElem?_eq_getElem hi]
    exact congrArg some (oc_blk (h.2 i q _ ha (List.getElem?_eq_getElem hi)))
theorem oc_fm {sel a b : List Own} (h : OwnsC sel a b) : a.filterMap Own.blk = b.filterMap Own.blk := by
  have := congrArg (List.filterMap id) (oc_map h)
  rwa [List.filterMap_map, List.filterMap_map] at this
theorem AP0 {sel : List Own} {xs ys : List AV} {w0 : World} {R0 R : RHeap} {w : World} {vs : List Value} (hc : Core G w0 R0 sel R w) (h : DenC R vs xs) (k : LendC sel xs ys) : DenC (lend sel w R) vs ys :=
  ⟨h.1.trans k.1, fun i v y hv hy => by
    have hi : i < xs.length := by rw [k.1]; exact (List.getElem?_eq_some_iff.1 hy).1
    have hx := List.getElem?_eq_getElem hi
    obtain ⟨h1, h2⟩ := h.2 i v _ hv hx
    exact ⟨k.2 i _ y hx hy G w0 R0 R w v hc h1, h2⟩⟩
theorem AZ2 {sel rest rest' : List Own} {w0 : World} {R0 R : RHeap} {w : World} (h : Core G w0 R0 (sel ++ rest) R w) (hG : ∀ b, G b → b ∈ rest.filterMap Own.blk) (hl : OwnsC sel rest rest') : Core G w0 R0 rest' (lend sel w R) w := by
  have hb := AK2 h hG
  have hs := U8 h
  refine ⟨hb.os, hb.tape, hb.output, hb.size, hb.block, hb.rle, hb.rold, fun q' hq' => ?_, fun q' hq' b hqb => ?_, ?_⟩
  · obtain ⟨i, hi⟩ := List.getElem?_of_mem hq'
    have hir : i < rest.length := by rw [hl.1]; exact (List.getElem?_eq_some_iff.1 hi).1
    have hr := List.getElem?_eq_getElem hir
    have hm := G6 hr
    have hoc := hl.2 i _ q' hr hi
    have k1 := hb.owned _ hm
    have k2 := h.owned _ (List.mem_append_right _ hm)
    revert hoc k1 k2
    generalize rest[i] = q
    intro hoc k1 k2
    cases q <;> cases q' <;> unfold OwnC at hoc
    · obtain ⟨rfl, rfl, hc⟩ := hoc
      obtain ⟨_, vs, hv, hd⟩ := k2
      exact ⟨k1.1, vs, hv, AP0 hs hd hc⟩
    · exact hoc.elim
    · exact hoc.elim
    · exact hoc.elim
    · exact hoc.elim
    · obtain ⟨rfl, rfl, rfl, hc⟩ := hoc
      obtain ⟨_, hlen, xs, hx, hd⟩ := k2
      refine ⟨k1.1, fun e he => ?_, xs, ?_, AP0 hs hd (Ab2 hc)⟩
      · obtain ⟨j, hj⟩ := List.getElem?_of_mem he
        have hje := List.getElem?_eq_getElem (show j < _ from hc.1.symm ▸ (List.getElem?_eq_some_iff.1 hj).1)
        rw [← (hc.2 j _ e hje hj).1]
        exact hlen _ (G6 hje)
      · rw [← hc.1]; exact hx
    · exact hoc.elim
    · exact hoc.elim
    · exact hoc.elim
    · exact hoc.elim
    · obtain ⟨rfl, rfl, hc⟩ := hoc
      obtain ⟨_, vs, hv, hd⟩ := k2
      exact ⟨k1.1, vs, hv, AP0 hs hd hc⟩
    · exact hoc.elim
    · exact hoc.elim
    · exact hoc.elim
    · exact hoc.elim
    · exact hoc ▸ k1
  · have hm : (some b) ∈ rest'.map Own.blk := List.mem_map.2 ⟨q', hq', hqb⟩
    rw [← oc_map hl] at hm
    obtain ⟨q, hq, hqb2⟩ := List.mem_map.1 hm
    exact hb.fresh q hq b hqb2
  · rw [← oc_fm hl]; exact hb.sep
theorem AG3 {α β : Type} {f : FuncId} {xs : List AV} {inw : List Own} {ok : α → Prop} {O : α → List Own} {V : α → AV} {ok' : β → Prop} {O' : β → List Own} {V' : β → AV} (g : α → β) (S rest : α → List Own) (hs : GSpec P f xs inw ok O V)
    (hok : ∀ a, ok a → ok' (g a)) (hV : ∀ a, ok a → LendTo (S a) (V a) (V' (g a))) (hp : ∀ a, ok a → (O a).Perm (S a ++ rest a)) (hG : ∀ a, ok a → ∀ b, blksOf inw b → b ∈ (rest a).filterMap Own.blk) (hl : ∀ a, ok a → OwnsC (S a) (rest a) (O' (g a))) : GSpec P f xs inw ok' O' V' := fun R w vs hr hd ho hn =>
  (hs R w vs hr hd ho hn).mono fun e w' ⟨a, v, R', h0, h1, h2, h3⟩ => by
    have hc := Z9 h3 (hp a h0)
    exact ⟨g a, v, lend (S a) w' R', hok a h0, h1, hV a h0 _ _ _ R' w' v (U8 hc) h2, AZ2 hc (hG a h0) (hl a h0)⟩
theorem oc_refl {sel : List Own} (q : Own) : OwnC sel q q := by
  cases q with
  | box b t cs => exact ⟨rfl, rfl, AC5⟩
  | arr v t sz es => exact ⟨rfl, rfl, rfl, J0⟩
  | frz b t cs => exact ⟨rfl, rfl, AC5⟩
  | tab T => exact rfl
theorem oc_set {sel l : List Own} {i : Nat} {q q' : Own} (hi : l[i]? = some q) (hc : OwnC sel q q') : OwnsC sel l (l.set i q') := ⟨by simp, fun j x y hx hy => by
  by_cases h : i = j
  · subst h
    rw [List.getElem?_set_self (List.getElem?_eq_some_iff.1 hi).1] at hy
    rw [hi] at hx
    injection hx with hx; injection hy with hy; subst hx; subst hy; exact hc
  · rw [List.getElem?_set_ne h, hx] at hy
    injection hy with hy; subst hy; exact oc_refl _⟩
theorem u4 {env : List (Nat × AV)} {sel rest : List Own} {q : Own} (is : List Nat) (i : Nat) (q' : Own) (hp : pick own is = (sel, rest)) (hi : rest[i]? = some q) (hc : OwnC sel q q') (hG : ∀ b, G b → b ∈ rest.filterMap Own.blk) : Le G n ⟨own, env⟩ ⟨rest.set i q', env⟩ := fun w0 R0 R a w ⟨h1, h2, h3⟩ => by
  have hk := j3 h1 hp
  exact ⟨lend sel w R, f0 (U8 hk), AZ2 hk hG (oc_set hi hc), fun t z hz => z.mono (f0 (U8 hk)) (h2 t z hz), h3⟩
section
variable {T X : Type} {ocs : T → X → List AV} {cs : T → List AV} {ow : T → X → List Own}
end
end
end Go.AV

set_option linter.unusedVariables false
set_option linter.unusedSimpArgs false
namespace Go.AV
section
variable {P : Program} {G : Nat → Prop} {n : Nat} {own : List Own} {o : Oper} {E : EnvF}
@[reducible] def byteC (b : UInt8) : List AV := [AV.ik .u8 b.toNat]
end
end Go.AV

set_option linter.unusedVariables false
set_option linter.unusedSimpArgs false
set_option maxRecDepth 100000
namespace Go.Proofs.YtnlhbdkcgaeimaaGreat
open Go Go.AV Go.M
attribute [local irreducible] OpW OpA OpS AWP FSpec ESpec RetOk RvDen Le Ev GuardIs
end Go.Proofs.YtnlhbdkcgaeimaaGreat

set_option linter.unusedVariables false
set_option linter.unusedSimpArgs false
set_option maxRecDepth 100000
namespace Go.M
open Go.AV
end Go.M
namespace Go.Proofs.YtnlhbdkcgaeimaaGreat
open Go Go.AV Go.M
attribute [local irreducible] OpW OpA OpS AWP FSpec ESpec GSpec OpE RetOk RetOkG RvDen Le Ev GuardIs SrcIs Int.tmod Int.tdiv IntKind.wrap
end Go.Proofs.YtnlhbdkcgaeimaaGreat

set_option linter.unusedVariables false
set_option linter.unusedSimpArgs false
set_option maxRecDepth 100000
namespace Go.M
open Go.AV
end Go.M
namespace Go.Proofs.YtnlhbdkcgaeimaaGreat
open Go Go.AV Go.M
attribute [local irreducible] OpW OpA OpS AWP FSpec ESpec GSpec OpE RetOk RetOkG RvDen Le Ev GuardIs SrcIs Int.tmod Int.tdiv IntKind.wrap
end Go.Proofs.YtnlhbdkcgaeimaaGreat

set_option linter.unusedVariables false
set_option linter.unusedSimpArgs false
set_option maxRecDepth 100000
namespace Go.M
open Go.AV
end Go.M
namespace Go.Proofs.YtnlhbdkcgaeimaaGreat
open Go Go.AV Go.M
attribute [local irreducible] OpW OpA OpS AWP FSpec ESpec GSpec OpE RetOk RetOkG RvDen Le Ev GuardIs SrcIs Int.tmod Int.tdiv IntKind.wrap
end Go.Proofs.YtnlhbdkcgaeimaaGreat

set_option linter.unusedVariables false
set_option linter.unusedSimpArgs false
set_option maxRecDepth 100000
set_option maxHeartbeats 1000000
namespace Go.M
open Go.AV
end Go.M
namespace Go.Proofs.YtnlhbdkcgaeimaaGreat
open Go Go.AV Go.M
attribute [local irreducible] OpW OpA OpS AWP FSpec ESpec GSpec OpE RetOk RetOkG RvDen Le Ev GuardIs SrcIs
end Go.Proofs.YtnlhbdkcgaeimaaGreat

set_option linter.unusedVariables false
set_option linter.unusedSimpArgs false
namespace Go.M
open Go.AV
structure TCur where
  p : Nat
  seed : Int
def bytesI (l : List Int) : AV := AV.list 1 (l.map fun x => [AV.ik .u8 x])
def curC (code : List Int) (c : TCur) : List AV := [bytesI code, AV.int c.p, AV.ik .u64 c.seed]
def ByteL (code : List Int) : Prop := ∀ x ∈ code, 0 ≤ x ∧ x ≤ 255
theorem Am4 {l : List Int} (h : ∀ x ∈ l, (Lit.int .u8 x).wf = true) : ByteL l := fun x hx => by
  have := h x hx
  simp only [Lit.wf, IntKind.min, IntKind.max, IntKind.signed, IntKind.bits] at this
  simp at this
  omega
theorem AB8 {x : Int} (h : 0 ≤ x ∧ x ≤ 255) : IntKind.i64.wrap x = x := Aa8 (by omega)
theorem j6 (x : Int) : 0 ≤ bandI x 255 ∧ bandI x 255 ≤ 255 := by
  unfold bandI
  have h1 : (BitVec.ofInt IntKind.u64.bits x &&& BitVec.ofInt IntKind.u64.bits 255).toNat ≤ 255 := by
    rw [BitVec.toNat_and]
    exact Nat.le_trans Nat.and_le_right (by decide)
  generalize (BitVec.ofInt IntKind.u64.bits x &&& BitVec.ofInt IntKind.u64.bits 255).toNat = n at h1
  unfold IntKind.wrap
  simp [IntKind.bits, IntKind.signed]
  omega
def bigB (code more : List Int) : Bool := decide ((1048576 : Int) < code.length) || decide ((1048576 : Int) - code.length < more.length)
end Go.M
