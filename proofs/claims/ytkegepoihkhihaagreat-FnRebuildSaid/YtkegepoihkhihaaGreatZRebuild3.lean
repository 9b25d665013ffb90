/- Texts of the claim, part 3. -/
import Derived.Test.YtkegepoihkhihaaGreatRows
import Derived.Laws.BytesArg
import Derived.Test.YtkegepoihkhihaaGreatZRebuild2

set_option linter.unusedVariables false
set_option linter.unusedSimpArgs false
set_option maxRecDepth 100000
namespace Go.Proofs.YtkegepoihkhihaaGreat
open Go Go.AV Go.M
attribute [local irreducible] OpW OpA OpS AWP FSpec ESpec RetOk RvDen Le Ev GuardIs
theorem AJ8 (l : List TWrite) (pre : TWrite → Prop) (f : TWrite → Bool) (hp : ∀ x ∈ l, pre x) : FSpec Tryz.prog 188 [AV.list 3 (l.map TWrite.cs), AV.fun1 Tryz.prog pre (fun a => AV.agg a.cs) (fun a => AV.bool (f a))] (AV.int (idxFrom f l 0)) := by
 refine E9 Tryz.func188 rfl Tryz.ntmps188 rfl ?_
 refine U6 (t := 0) rfl fun hl => ?_
 try simp only [A9] at hl
 refine A3 (A2 ?_)
 refine A1 rfl (B7 rfl B6) ?_
 refine A4 (A3 (A3 (A2 ?_)))
 refine A5 rfl ?_
 refine A1 rfl (H2 rfl G0 (A0 rfl)) ?_
 refine A1 rfl (B9 rfl B6) ?_
 refine A4 (D1 ?_)
 refine J6 [(0, _), (1, _), (7, _)] _ (fun (i : Nat) => i ≤ l.length ∧ idxFrom f l 0 = idxFrom f (l.drop i) i) (fun (i : Nat) => []) (fun (i : Nat) => [(8, AV.int i)]) (fun (i : Nat) => l.length - i) (0) ?_ (K0 ⟨rfl, rfl, rfl, rfl, trivial⟩) ?_
 ·exact ⟨Nat.zero_le _, rfl⟩
 intro i hinv
 refine A3 (A2 ?_)
 refine A1 rfl (K5 rfl (A0 rfl) (A0 rfl)) ?_
 refine A4 (A3 ?_)
 refine C4 (A0 rfl) ?_ ?_
 ·intro h9
  have k9 := of_decide_eq_true h9; try simp only [A9] at k9
  have hlt : i < l.length := by omega
  obtain ⟨x, hx⟩ := get_some hlt
  refine C8 (A3 (D1 (A3 (A2 ?_))))
  refine A5 rfl ?_
  refine B5 rfl ?_
  refine A4 (A3 (A2 ?_))
  refine A5 rfl ?_
  refine A5 rfl ?_
  refine A5 rfl ?_
  refine A1 rfl (J4 rfl G0 H6 (A0 rfl) (A0 rfl) hx (by first | omega | (simp only [C9, A8, szR] at *; omega))) ?_
  refine A1 rfl (L4 rfl (A0 rfl) T9 H6) ?_
  refine A1 rfl (AR6 rfl (A0 rfl) x (hp x (G2 hx)) (A0 rfl)) ?_
  refine A4 ?_
  refine C4 (A0 rfl) ?_ ?_
  ·intro h16
   refine A3 (A2 ?_)
   refine A5 rfl ?_
   refine B5 rfl ?_
   refine A4 ?_
   refine C5 ?_
   exact H9 rfl (B8 rfl (by first | exact congrArg AV.int (by rw [hinv.2, drop_some hx, idxFrom, h16]; rfl) | exact congrArg AV.int (by rw [hinv.2, List.drop_eq_nil_of_le hge]; rfl)))
  intro h16
  refine C8 (A2 ?_)
  refine A1 rfl (G7 rfl (A0 rfl) B6 (by first | omega | (simp only [C9, A8, szR] at *; omega))) ?_
  refine A5 rfl ?_
  refine A4 ?_
  refine L9 i (i + 1) ?_ ?_ (K0 ⟨rfl, rfl, rfl, rfl, trivial⟩)
  ·exact ⟨by omega, by rw [hinv.2, drop_some hx, idxFrom, h16]; simp⟩
  omega
 intro h9
 have k9 := of_decide_eq_false h9; try simp only [A9] at k9
 have hge : l.length ≤ i := by omega
 refine G9 ?_
 refine A3 (A2 ?_)
 refine A1 rfl (B7 rfl B6) ?_
 refine A4 ?_
 refine C5 ?_
 exact H9 rfl (B8 rfl (by first | exact congrArg AV.int (by rw [hinv.2, drop_some hx, idxFrom, h16]; rfl) | exact congrArg AV.int (by rw [hinv.2, List.drop_eq_nil_of_le hge]; rfl)))
theorem e8 (l : List TWrite) (pre : TWrite → Prop) (f : TWrite → Bool) (hp : ∀ x ∈ l, pre x) : FSpec Tryz.prog 141 [AV.list 3 (l.map TWrite.cs), AV.fun1 Tryz.prog pre (fun a => AV.agg a.cs) (fun a => AV.bool (f a))] (AV.bool (l.any f)) := by
 refine E9 Tryz.func141 rfl Tryz.ntmps141 rfl ?_
 refine A3 (A2 ?_)
 refine A1 rfl (B7 rfl F8) ?_
 refine A4 (A3 (A2 ?_))
 refine A5 rfl ?_
 refine A5 rfl ?_
 refine A1 rfl (E8 rfl Tryz.call188 rfl (AJ8 _ _ _ (by first | (intros; trivial) | assumption | (intros; first | trivial | (simp_all; done)))) (A7 (A0 rfl) (A7 (A0 rfl) C6))) ?_
 refine A1 rfl (c6 rfl (A0 rfl) B6) ?_
 refine B5 rfl ?_
 refine A4 ?_
 refine C5 ?_
 exact H9 rfl (B8 rfl (by exact congrArg AV.bool (n0 f l 0 (Int.le_refl 0))))
theorem AM3 (l : List THeld) (pre : THeld → Prop) (f : THeld → Bool) (hp : ∀ x ∈ l, pre x) : FSpec Tryz.prog 186 [AV.list 5 (l.map THeld.cs), AV.fun1 Tryz.prog pre (fun a => AV.agg a.cs) (fun a => AV.bool (f a))] (AV.int (idxFrom f l 0)) := by
 refine E9 Tryz.func186 rfl Tryz.ntmps186 rfl ?_
 refine U6 (t := 0) rfl fun hl => ?_
 try simp only [A9] at hl
 refine A3 (A2 ?_)
 refine A1 rfl (B7 rfl B6) ?_
 refine A4 (A3 (A3 (A2 ?_)))
 refine A5 rfl ?_
 refine A1 rfl (H2 rfl E0 (A0 rfl)) ?_
 refine A1 rfl (B9 rfl B6) ?_
 refine A4 (D1 ?_)
 refine J6 [(0, _), (1, _), (7, _)] _ (fun (i : Nat) => i ≤ l.length ∧ idxFrom f l 0 = idxFrom f (l.drop i) i) (fun (i : Nat) => []) (fun (i : Nat) => [(8, AV.int i)]) (fun (i : Nat) => l.length - i) (0) ?_ (K0 ⟨rfl, rfl, rfl, rfl, trivial⟩) ?_
 ·exact ⟨Nat.zero_le _, rfl⟩
 intro i hinv
 refine A3 (A2 ?_)
 refine A1 rfl (K5 rfl (A0 rfl) (A0 rfl)) ?_
 refine A4 (A3 ?_)
 refine C4 (A0 rfl) ?_ ?_
 ·intro h9
  have k9 := of_decide_eq_true h9; try simp only [A9] at k9
  have hlt : i < l.length := by omega
  obtain ⟨x, hx⟩ := get_some hlt
  refine C8 (A3 (D1 (A3 (A2 ?_))))
  refine A5 rfl ?_
  refine B5 rfl ?_
  refine A4 (A3 (A2 ?_))
  refine A5 rfl ?_
  refine A5 rfl ?_
  refine A5 rfl ?_
  refine A1 rfl (J4 rfl E0 D4 (A0 rfl) (A0 rfl) hx (by first | omega | (simp only [C9, A8, szR] at *; omega))) ?_
  refine A1 rfl (L4 rfl (A0 rfl) J3 D4) ?_
  refine A1 rfl (AR6 rfl (A0 rfl) x (hp x (G2 hx)) (A0 rfl)) ?_
  refine A4 ?_
  refine C4 (A0 rfl) ?_ ?_
  ·intro h16
   refine A3 (A2 ?_)
   refine A5 rfl ?_
   refine B5 rfl ?_
   refine A4 ?_
   refine C5 ?_
   exact H9 rfl (B8 rfl (by first | exact congrArg AV.int (by rw [hinv.2, drop_some hx, idxFrom, h16]; rfl) | exact congrArg AV.int (by rw [hinv.2, List.drop_eq_nil_of_le hge]; rfl)))
  intro h16
  refine C8 (A2 ?_)
  refine A1 rfl (G7 rfl (A0 rfl) B6 (by first | omega | (simp only [C9, A8, szR] at *; omega))) ?_
  refine A5 rfl ?_
  refine A4 ?_
  refine L9 i (i + 1) ?_ ?_ (K0 ⟨rfl, rfl, rfl, rfl, trivial⟩)
  ·exact ⟨by omega, by rw [hinv.2, drop_some hx, idxFrom, h16]; simp⟩
  omega
 intro h9
 have k9 := of_decide_eq_false h9; try simp only [A9] at k9
 have hge : l.length ≤ i := by omega
 refine G9 ?_
 refine A3 (A2 ?_)
 refine A1 rfl (B7 rfl B6) ?_
 refine A4 ?_
 refine C5 ?_
 exact H9 rfl (B8 rfl (by first | exact congrArg AV.int (by rw [hinv.2, drop_some hx, idxFrom, h16]; rfl) | exact congrArg AV.int (by rw [hinv.2, List.drop_eq_nil_of_le hge]; rfl)))
theorem AG4 (l : List THeld) (pre : THeld → Prop) (f : THeld → Bool) (hp : ∀ x ∈ l, pre x) : FSpec Tryz.prog 138 [AV.list 5 (l.map THeld.cs), AV.fun1 Tryz.prog pre (fun a => AV.agg a.cs) (fun a => AV.bool (f a))] (AV.bool (l.any f)) := by
 refine E9 Tryz.func138 rfl Tryz.ntmps138 rfl ?_
 refine A3 (A2 ?_)
 refine A1 rfl (B7 rfl F8) ?_
 refine A4 (A3 (A2 ?_))
 refine A5 rfl ?_
 refine A5 rfl ?_
 refine A1 rfl (E8 rfl Tryz.call186 rfl (AM3 _ _ _ (by first | (intros; trivial) | assumption | (intros; first | trivial | (simp_all; done)))) (A7 (A0 rfl) (A7 (A0 rfl) C6))) ?_
 refine A1 rfl (c6 rfl (A0 rfl) B6) ?_
 refine B5 rfl ?_
 refine A4 ?_
 refine C5 ?_
 exact H9 rfl (B8 rfl (by exact congrArg AV.bool (n0 f l 0 (Int.le_refl 0))))
theorem AE7 (l : List TFeedItem) (pre : TFeedItem → Prop) (f : TFeedItem → Bool) (hp : ∀ x ∈ l, pre x) : FSpec Tryz.prog 110 [AV.list 5 (l.map TFeedItem.cs), AV.fun1 Tryz.prog pre (fun a => AV.agg a.cs) (fun a => AV.bool (f a))] (AV.int (idxFrom f l 0)) := by
 refine E9 Tryz.func110 rfl Tryz.ntmps110 rfl ?_
 refine U6 (t := 0) rfl fun hl => ?_
 try simp only [A9] at hl
 refine A3 (A2 ?_)
 refine A1 rfl (B7 rfl B6) ?_
 refine A4 (A3 (A3 (A2 ?_)))
 refine A5 rfl ?_
 refine A1 rfl (H2 rfl I6 (A0 rfl)) ?_
 refine A1 rfl (B9 rfl B6) ?_
 refine A4 (D1 ?_)
 refine J6 [(0, _), (1, _), (7, _)] _ (fun (i : Nat) => i ≤ l.length ∧ idxFrom f l 0 = idxFrom f (l.drop i) i) (fun (i : Nat) => []) (fun (i : Nat) => [(8, AV.int i)]) (fun (i : Nat) => l.length - i) (0) ?_ (K0 ⟨rfl, rfl, rfl, rfl, trivial⟩) ?_
 ·exact ⟨Nat.zero_le _, rfl⟩
 intro i hinv
 refine A3 (A2 ?_)
 refine A1 rfl (K5 rfl (A0 rfl) (A0 rfl)) ?_
 refine A4 (A3 ?_)
 refine C4 (A0 rfl) ?_ ?_
 ·intro h9
  have k9 := of_decide_eq_true h9; try simp only [A9] at k9
  have hlt : i < l.length := by omega
  obtain ⟨x, hx⟩ := get_some hlt
  refine C8 (A3 (D1 (A3 (A2 ?_))))
  refine A5 rfl ?_
  refine B5 rfl ?_
  refine A4 (A3 (A2 ?_))
  refine A5 rfl ?_
  refine A5 rfl ?_
  refine A5 rfl ?_
  refine A1 rfl (J4 rfl I6 L3 (A0 rfl) (A0 rfl) hx (by first | omega | (simp only [C9, A8, szR] at *; omega))) ?_
  refine A1 rfl (L4 rfl (A0 rfl) U1 L3) ?_
  refine A1 rfl (AR6 rfl (A0 rfl) x (hp x (G2 hx)) (A0 rfl)) ?_
  refine A4 ?_
  refine C4 (A0 rfl) ?_ ?_
  ·intro h16
   refine A3 (A2 ?_)
   refine A5 rfl ?_
   refine B5 rfl ?_
   refine A4 ?_
   refine C5 ?_
   exact H9 rfl (B8 rfl (by first | exact congrArg AV.int (by rw [hinv.2, drop_some hx, idxFrom, h16]; rfl) | exact congrArg AV.int (by rw [hinv.2, List.drop_eq_nil_of_le hge]; rfl)))
  intro h16
  refine C8 (A2 ?_)
  refine A1 rfl (G7 rfl (A0 rfl) B6 (by first | omega | (simp only [C9, A8, szR] at *; omega))) ?_
  refine A5 rfl ?_
  refine A4 ?_
  refine L9 i (i + 1) ?_ ?_ (K0 ⟨rfl, rfl, rfl, rfl, trivial⟩)
  ·exact ⟨by omega, by rw [hinv.2, drop_some hx, idxFrom, h16]; simp⟩
  omega
 intro h9
 have k9 := of_decide_eq_false h9; try simp only [A9] at k9
 have hge : l.length ≤ i := by omega
 refine G9 ?_
 refine A3 (A2 ?_)
 refine A1 rfl (B7 rfl B6) ?_
 refine A4 ?_
 refine C5 ?_
 exact H9 rfl (B8 rfl (by first | exact congrArg AV.int (by rw [hinv.2, drop_some hx, idxFrom, h16]; rfl) | exact congrArg AV.int (by rw [hinv.2, List.drop_eq_nil_of_le hge]; rfl)))
theorem AA5 (l : List TFeedItem) (pre : TFeedItem → Prop) (f : TFeedItem → Bool) (hp : ∀ x ∈ l, pre x) : FSpec Tryz.prog 70 [AV.list 5 (l.map TFeedItem.cs), AV.fun1 Tryz.prog pre (fun a => AV.agg a.cs) (fun a => AV.bool (f a))] (AV.bool (l.any f)) := by
 refine E9 Tryz.func70 rfl Tryz.ntmps70 rfl ?_
 refine A3 (A2 ?_)
 refine A1 rfl (B7 rfl F8) ?_
 refine A4 (A3 (A2 ?_))
 refine A5 rfl ?_
 refine A5 rfl ?_
 refine A1 rfl (E8 rfl Tryz.call110 rfl (AE7 _ _ _ (by first | (intros; trivial) | assumption | (intros; first | trivial | (simp_all; done)))) (A7 (A0 rfl) (A7 (A0 rfl) C6))) ?_
 refine A1 rfl (c6 rfl (A0 rfl) B6) ?_
 refine B5 rfl ?_
 refine A4 ?_
 refine C5 ?_
 exact H9 rfl (B8 rfl (by exact congrArg AV.bool (n0 f l 0 (Int.le_refl 0))))
theorem AE8 (l : List TWrite) (v : Str) (pre : TWrite → Str → Prop) (hp : ∀ x ∈ l, pre x v) (f : TWrite → Str → Int) (hl2 : l.length ≤ 4611686018427387903) : FSpec Tryz.prog 229 [AV.list 3 (l.map TWrite.cs), AV.str v, AV.fun2 Tryz.prog pre (fun a => AV.agg a.cs) (fun b => AV.str b) (fun a b => AV.int (f a b))] (AV.tup [AV.int (bs (fun x => f x v) l 0 l.length), AV.bool (bsAt (fun x => f x v) l (bs (fun x => f x v) l 0 l.length))]) := by
 refine E9 Tryz.func229 rfl Tryz.ntmps229 rfl ?_
 refine U6 (t := 0) rfl fun hl => ?_
 try simp only [A9] at hl
 refine A3 (A2 ?_)
 refine A1 rfl (B7 rfl B6) ?_
 refine A1 rfl (B7 rfl F8) ?_
 refine A4 (A3 (A2 ?_))
 refine A5 rfl ?_
 refine A1 rfl (H2 rfl G0 (A0 rfl)) ?_
 refine B5 rfl ?_
 refine A4 (A3 (A2 ?_))
 refine A5 rfl ?_
 refine A1 rfl (B7 rfl B6) ?_
 refine B5 rfl ?_
 refine A4 (A3 (D1 ?_))
 refine Q9 [(0, _), (1, _), (2, _), (6, _), (7, _), (8, _)] _ (fun (i : Nat) (j : Nat) => i ≤ j ∧ j ≤ l.length ∧ bs (fun x => f x v) l 0 l.length = bs (fun x => f x v) l i j) (fun (i : Nat) (j : Nat) => []) (fun (i : Nat) (j : Nat) => [(9, AV.int i), (10, AV.int j)]) (fun (i : Nat) (j : Nat) => j - i) (0) ((l.map TWrite.cs).length) ?_ (K0 ⟨rfl, rfl, rfl, rfl, rfl, rfl, rfl, rfl, trivial⟩) ?_
 ·exact ⟨Nat.zero_le _, by simp, by simp⟩
 intro i j hinv
 refine A3 (A3 (A2 ?_))
 refine A5 rfl ?_
 refine A5 rfl ?_
 refine A1 rfl (K5 rfl (A0 rfl) (A0 rfl)) ?_
 refine A4 ?_
 refine C4 (A0 rfl) ?_ ?_
 ·intro h17
  have k17 := of_decide_eq_true h17; try simp only [A9] at k17
  have hlt : i < j := by omega
  obtain ⟨x, hx⟩ := get_some (show (i + j) / 2 < l.length by omega)
  refine C8 (D1 (A3 (A2 ?_)))
  refine A5 rfl ?_
  refine A5 rfl ?_
  refine A1 rfl (G7 rfl (A0 rfl) (A0 rfl) (by omega)) ?_
  refine A1 rfl (l0 rfl (by kernel_rfl) Tryz.underlying158 (A0 rfl)) ?_
  refine A1 rfl (AU5 rfl (A0 rfl) B6 (by decide) (by decide)) ?_
  refine A1 rfl (l0 rfl (by kernel_rfl) P8 (A0 rfl)) ?_
  refine B5 rfl ?_
  refine A4 (A3 (A2 ?_))
  rw [AZ2 (by omega)]
  refine A5 rfl ?_
  refine A5 rfl ?_
  refine A5 rfl ?_
  refine A1 rfl (J4 rfl G0 H6 (A0 rfl) (A0 rfl) hx (by first | omega | (simp only [C9, A8, szR] at *; omega))) ?_
  refine A1 rfl (L4 rfl (A0 rfl) T9 H6) ?_
  refine A5 rfl ?_
  refine A1 rfl (s4 rfl (A0 rfl) x v (hp x (G2 hx)) (A0 rfl) (A0 rfl)) ?_
  refine A1 rfl (K5 rfl (A0 rfl) B6) ?_
  refine A4 ?_
  refine C4 (A0 rfl) ?_ ?_
  ·intro h31
   have k31 := of_decide_eq_true h31; try simp only [A9] at k31
   refine A2 ?_
   refine A5 rfl ?_
   refine A1 rfl (G7 rfl (A0 rfl) B6 (by first | omega | (simp only [C9, A8, szR] at *; omega))) ?_
   refine B5 rfl ?_
   refine A4 ?_
   refine k0 ?_
   refine P6 i j ((i + j) / 2 + 1) (j) ?_ ?_ (K0 ⟨rfl, rfl, rfl, rfl, rfl, rfl, rfl, rfl, trivial⟩)
   ·exact ⟨by omega, by omega, by rw [hinv.2.2, AV5 hlt hx k31]⟩
   omega
  intro h31
  have k31 := of_decide_eq_false h31; try simp only [A9] at k31
  refine A2 ?_
  refine A5 rfl ?_
  refine B5 rfl ?_
  refine A4 ?_
  refine k0 ?_
  refine P6 i j (i) ((i + j) / 2) ?_ ?_ (K0 ⟨rfl, rfl, rfl, rfl, rfl, rfl, rfl, rfl, trivial⟩)
  ·exact ⟨by omega, by omega, by rw [hinv.2.2, AV6 hlt hx k31]⟩
  omega
 intro h17
 have k17 := of_decide_eq_false h17; try simp only [A9] at k17
 have hge : bs (fun x => f x v) l 0 l.length = i := by rw [hinv.2.2, AK9 (by omega)]
 obtain ⟨y, hy⟩ := AB1 l i
 refine G9 ?_
 refine A3 (A2 ?_)
 refine A5 rfl ?_
 refine A5 rfl ?_
 refine A5 rfl ?_
 refine A1 rfl (K5 rfl (A0 rfl) (A0 rfl)) ?_
 refine A5 rfl ?_
 refine D0 rfl (fun hc => B9 rfl (A0 rfl)) ?_
 refine D0 rfl (fun hc => B9 rfl (A0 rfl)) ?_
 refine D0 rfl (fun hc => B9 rfl (A0 rfl)) ?_
 refine D0 rfl (fun hc => J4 rfl G0 H6 (A6 rfl hc) (A6 rfl hc) (hy (by first | omega | ((try simp only [C9, A8, szR] at *); omega) | (have hc2 := hc; simp only [P4, beq_iff_eq, bne_iff_ne, A9, E4] at hc2; omega))) rfl) ?_
 refine D0 rfl (fun hc => L4 rfl (A6 rfl hc) T9 H6) ?_
 refine D0 rfl (fun hc => B9 rfl (A0 rfl)) ?_
 refine D0 rfl (fun hc => s4 rfl (A6 rfl hc) y v (hp y (G2 (hy (by first | omega | ((try simp only [C9, A8, szR] at *); omega) | (have hc2 := hc; simp only [P4, beq_iff_eq, bne_iff_ne, A9, E4] at hc2; omega))))) (A6 rfl hc) (A6 rfl hc)) ?_
 refine D0 rfl (fun hc => O7 rfl (A6 rfl hc) B6) ?_
 refine A1 rfl (I1 rfl (A0 rfl) (F9 rfl)) ?_
 refine B5 rfl ?_
 refine B5 rfl ?_
 refine A4 ?_
 refine C5 ?_
 exact i6 rfl (by decide) (F2 (B8 rfl (by first | exact congrArg AV.int (by rw [hge]) | exact congrArg AV.bool (by rw [hge]; unfold bsAt; simp only [A9]; cases Nat.lt_or_ge i l.length with | inl hi => (rw [hy hi]; simp [hi]) | inr hi => (rw [List.getElem?_eq_none (by omega)]; simp only [decide_eq_false (show ¬ ((i : Int) < (l.length : Int)) by omega), Bool.false_and])))) (F2 (B8 rfl (by first | exact congrArg AV.int (by rw [hge]) | exact congrArg AV.bool (by rw [hge]; unfold bsAt; simp only [A9]; cases Nat.lt_or_ge i l.length with | inl hi => (rw [hy hi]; simp [hi]) | inr hi => (rw [List.getElem?_eq_none (by omega)]; simp only [decide_eq_false (show ¬ ((i : Int) < (l.length : Int)) by omega), Bool.false_and])))) L7))
theorem AG5 (l : List TCell) (v : Str) (pre : TCell → Str → Prop) (hp : ∀ x ∈ l, pre x v) (f : TCell → Str → Int) (hl2 : l.length ≤ 4611686018427387903) : FSpec Tryz.prog 172 [AV.list 2 (l.map TCell.cs), AV.str v, AV.fun2 Tryz.prog pre (fun a => AV.agg a.cs) (fun b => AV.str b) (fun a b => AV.int (f a b))] (AV.tup [AV.int (bs (fun x => f x v) l 0 l.length), AV.bool (bsAt (fun x => f x v) l (bs (fun x => f x v) l 0 l.length))]) := by
 refine E9 Tryz.func172 rfl Tryz.ntmps172 rfl ?_
 refine U6 (t := 0) rfl fun hl => ?_
 try simp only [A9] at hl
 refine A3 (A2 ?_)
 refine A1 rfl (B7 rfl B6) ?_
 refine A1 rfl (B7 rfl F8) ?_
 refine A4 (A3 (A2 ?_))
 refine A5 rfl ?_
 refine A1 rfl (H2 rfl C7 (A0 rfl)) ?_
 refine B5 rfl ?_
 refine A4 (A3 (A2 ?_))
 refine A5 rfl ?_
 refine A1 rfl (B7 rfl B6) ?_
 refine B5 rfl ?_
 refine A4 (A3 (D1 ?_))
 refine Q9 [(0, _), (1, _), (2, _), (6, _), (7, _), (8, _)] _ (fun (i : Nat) (j : Nat) => i ≤ j ∧ j ≤ l.length ∧ bs (fun x => f x v) l 0 l.length = bs (fun x => f x v) l i j) (fun (i : Nat) (j : Nat) => []) (fun (i : Nat) (j : Nat) => [(9, AV.int i), (10, AV.int j)]) (fun (i : Nat) (j : Nat) => j - i) (0) ((l.map TCell.cs).length) ?_ (K0 ⟨rfl, rfl, rfl, rfl, rfl, rfl, rfl, rfl, trivial⟩) ?_
 ·exact ⟨Nat.zero_le _, by simp, by simp⟩
 intro i j hinv
 refine A3 (A3 (A2 ?_))
 refine A5 rfl ?_
 refine A5 rfl ?_
 refine A1 rfl (K5 rfl (A0 rfl) (A0 rfl)) ?_
 refine A4 ?_
 refine C4 (A0 rfl) ?_ ?_
 ·intro h17
  have k17 := of_decide_eq_true h17; try simp only [A9] at k17
  have hlt : i < j := by omega
  obtain ⟨x, hx⟩ := get_some (show (i + j) / 2 < l.length by omega)
  refine C8 (D1 (A3 (A2 ?_)))
  refine A5 rfl ?_
  refine A5 rfl ?_
  refine A1 rfl (G7 rfl (A0 rfl) (A0 rfl) (by omega)) ?_
  refine A1 rfl (l0 rfl (by kernel_rfl) Tryz.underlying158 (A0 rfl)) ?_
  refine A1 rfl (AU5 rfl (A0 rfl) B6 (by decide) (by decide)) ?_
  refine A1 rfl (l0 rfl (by kernel_rfl) P8 (A0 rfl)) ?_
  refine B5 rfl ?_
  refine A4 (A3 (A2 ?_))
  rw [AZ2 (by omega)]
  refine A5 rfl ?_
  refine A5 rfl ?_
  refine A5 rfl ?_
  refine A1 rfl (J4 rfl C7 E2 (A0 rfl) (A0 rfl) hx (by first | omega | (simp only [C9, A8, szR] at *; omega))) ?_
  refine A1 rfl (L4 rfl (A0 rfl) S7 E2) ?_
  refine A5 rfl ?_
  refine A1 rfl (s4 rfl (A0 rfl) x v (hp x (G2 hx)) (A0 rfl) (A0 rfl)) ?_
  refine A1 rfl (K5 rfl (A0 rfl) B6) ?_
  refine A4 ?_
  refine C4 (A0 rfl) ?_ ?_
  ·intro h31
   have k31 := of_decide_eq_true h31; try simp only [A9] at k31
   refine A2 ?_
   refine A5 rfl ?_
   refine A1 rfl (G7 rfl (A0 rfl) B6 (by first | omega | (simp only [C9, A8, szR] at *; omega))) ?_
   refine B5 rfl ?_
   refine A4 ?_
   refine k0 ?_
   refine P6 i j ((i + j) / 2 + 1) (j) ?_ ?_ (K0 ⟨rfl, rfl, rfl, rfl, rfl, rfl, rfl, rfl, trivial⟩)
   ·exact ⟨by omega, by omega, by rw [hinv.2.2, AV5 hlt hx k31]⟩
   omega
  intro h31
  have k31 := of_decide_eq_false h31; try simp only [A9] at k31
  refine A2 ?_
  refine A5 rfl ?_
  refine B5 rfl ?_
  refine A4 ?_
  refine k0 ?_
  refine P6 i j (i) ((i + j) / 2) ?_ ?_ (K0 ⟨rfl, rfl, rfl, rfl, rfl, rfl, rfl, rfl, trivial⟩)
  ·exact ⟨by omega, by omega, by rw [hinv.2.2, AV6 hlt hx k31]⟩
  omega
 intro h17
 have k17 := of_decide_eq_false h17; try simp only [A9] at k17
 have hge : bs (fun x => f x v) l 0 l.length = i := by rw [hinv.2.2, AK9 (by omega)]
 obtain ⟨y, hy⟩ := AB1 l i
 refine G9 ?_
 refine A3 (A2 ?_)
 refine A5 rfl ?_
 refine A5 rfl ?_
 refine A5 rfl ?_
 refine A1 rfl (K5 rfl (A0 rfl) (A0 rfl)) ?_
 refine A5 rfl ?_
 refine D0 rfl (fun hc => B9 rfl (A0 rfl)) ?_
 refine D0 rfl (fun hc => B9 rfl (A0 rfl)) ?_
 refine D0 rfl (fun hc => B9 rfl (A0 rfl)) ?_
 refine D0 rfl (fun hc => J4 rfl C7 E2 (A6 rfl hc) (A6 rfl hc) (hy (by first | omega | ((try simp only [C9, A8, szR] at *); omega) | (have hc2 := hc; simp only [P4, beq_iff_eq, bne_iff_ne, A9, E4] at hc2; omega))) rfl) ?_
 refine D0 rfl (fun hc => L4 rfl (A6 rfl hc) S7 E2) ?_
 refine D0 rfl (fun hc => B9 rfl (A0 rfl)) ?_
 refine D0 rfl (fun hc => s4 rfl (A6 rfl hc) y v (hp y (G2 (hy (by first | omega | ((try simp only [C9, A8, szR] at *); omega) | (have hc2 := hc; simp only [P4, beq_iff_eq, bne_iff_ne, A9, E4] at hc2; omega))))) (A6 rfl hc) (A6 rfl hc)) ?_
 refine D0 rfl (fun hc => O7 rfl (A6 rfl hc) B6) ?_
 refine A1 rfl (I1 rfl (A0 rfl) (F9 rfl)) ?_
 refine B5 rfl ?_
 refine B5 rfl ?_
 refine A4 ?_
 refine C5 ?_
 exact i6 rfl (by decide) (F2 (B8 rfl (by first | exact congrArg AV.int (by rw [hge]) | exact congrArg AV.bool (by rw [hge]; unfold bsAt; simp only [A9]; cases Nat.lt_or_ge i l.length with | inl hi => (rw [hy hi]; simp [hi]) | inr hi => (rw [List.getElem?_eq_none (by omega)]; simp only [decide_eq_false (show ¬ ((i : Int) < (l.length : Int)) by omega), Bool.false_and])))) (F2 (B8 rfl (by first | exact congrArg AV.int (by rw [hge]) | exact congrArg AV.bool (by rw [hge]; unfold bsAt; simp only [A9]; cases Nat.lt_or_ge i l.length with | inl hi => (rw [hy hi]; simp [hi]) | inr hi => (rw [List.getElem?_eq_none (by omega)]; simp only [decide_eq_false (show ¬ ((i : Int) < (l.length : Int)) by omega), Bool.false_and])))) L7))
theorem AG6 (l : List THeld) (v : Int) (pre : THeld → Int → Prop) (hp : ∀ x ∈ l, pre x v) (f : THeld → Int → Int) (hl2 : l.length ≤ 4611686018427387903) : FSpec Tryz.prog 144 [AV.list 5 (l.map THeld.cs), AV.int v, AV.fun2 Tryz.prog pre (fun a => AV.agg a.cs) (fun b => AV.int b) (fun a b => AV.int (f a b))] (AV.tup [AV.int (bs (fun x => f x v) l 0 l.length), AV.bool (bsAt (fun x => f x v) l (bs (fun x => f x v) l 0 l.length))]) := by
 refine E9 Tryz.func144 rfl Tryz.ntmps144 rfl ?_
 refine U6 (t := 0) rfl fun hl => ?_
 try simp only [A9] at hl
 refine A3 (A2 ?_)
 refine A1 rfl (B7 rfl B6) ?_
 refine A1 rfl (B7 rfl F8) ?_
 refine A4 (A3 (A2 ?_))
 refine A5 rfl ?_
 refine A1 rfl (H2 rfl E0 (A0 rfl)) ?_
 refine B5 rfl ?_
 refine A4 (A3 (A2 ?_))
 refine A5 rfl ?_
 refine A1 rfl (B7 rfl B6) ?_
 refine B5 rfl ?_
 refine A4 (A3 (D1 ?_))
 refine Q9 [(0, _), (1, _), (2, _), (6, _), (7, _), (8, _)] _ (fun (i : Nat) (j : Nat) => i ≤ j ∧ j ≤ l.length ∧ bs (fun x => f x v) l 0 l.length = bs (fun x => f x v) l i j) (fun (i : Nat) (j : Nat) => []) (fun (i : Nat) (j : Nat) => [(9, AV.int i), (10, AV.int j)]) (fun (i : Nat) (j : Nat) => j - i) (0) ((l.map THeld.cs).length) ?_ (K0 ⟨rfl, rfl, rfl, rfl, rfl, rfl, rfl, rfl, trivial⟩) ?_
 ·exact ⟨Nat.zero_le _, by simp, by simp⟩
 intro i j hinv
 refine A3 (A3 (A2 ?_))
 refine A5 rfl ?_
 refine A5 rfl ?_
 refine A1 rfl (K5 rfl (A0 rfl) (A0 rfl)) ?_
 refine A4 ?_
 refine C4 (A0 rfl) ?_ ?_
 ·intro h17
  have k17 := of_decide_eq_true h17; try simp only [A9] at k17
  have hlt : i < j := by omega
  obtain ⟨x, hx⟩ := get_some (show (i + j) / 2 < l.length by omega)
  refine C8 (D1 (A3 (A2 ?_)))
  refine A5 rfl ?_
  refine A5 rfl ?_
  refine A1 rfl (G7 rfl (A0 rfl) (A0 rfl) (by omega)) ?_
  refine A1 rfl (l0 rfl (by kernel_rfl) Tryz.underlying158 (A0 rfl)) ?_
  refine A1 rfl (AU5 rfl (A0 rfl) B6 (by decide) (by decide)) ?_
  refine A1 rfl (l0 rfl (by kernel_rfl) P8 (A0 rfl)) ?_
  refine B5 rfl ?_
  refine A4 (A3 (A2 ?_))
  rw [AZ2 (by omega)]
  refine A5 rfl ?_
  refine A5 rfl ?_
  refine A5 rfl ?_
  refine A1 rfl (J4 rfl E0 D4 (A0 rfl) (A0 rfl) hx (by first | omega | (simp only [C9, A8, szR] at *; omega))) ?_
  refine A1 rfl (L4 rfl (A0 rfl) J3 D4) ?_
  refine A5 rfl ?_
  refine A1 rfl (s4 rfl (A0 rfl) x v (hp x (G2 hx)) (A0 rfl) (A0 rfl)) ?_
  refine A1 rfl (K5 rfl (A0 rfl) B6) ?_
  refine A4 ?_
  refine C4 (A0 rfl) ?_ ?_
  ·intro h31
   have k31 := of_decide_eq_true h31; try simp only [A9] at k31
   refine A2 ?_
   refine A5 rfl ?_
   refine A1 rfl (G7 rfl (A0 rfl) B6 (by first | omega | (simp only [C9, A8, szR] at *; omega))) ?_
   refine B5 rfl ?_
   refine A4 ?_
   refine k0 ?_
   refine P6 i j ((i + j) / 2 + 1) (j) ?_ ?_ (K0 ⟨rfl, rfl, rfl, rfl, rfl, rfl, rfl, rfl, trivial⟩)
   ·exact ⟨by omega, by omega, by rw [hinv.2.2, AV5 hlt hx k31]⟩
   omega
  intro h31
  have k31 := of_decide_eq_false h31; try simp only [A9] at k31
  refine A2 ?_
  refine A5 rfl ?_
  refine B5 rfl ?_
  refine A4 ?_
  refine k0 ?_
  refine P6 i j (i) ((i + j) / 2) ?_ ?_ (K0 ⟨rfl, rfl, rfl, rfl, rfl, rfl, rfl, rfl, trivial⟩)
  ·exact ⟨by omega, by omega, by rw [hinv.2.2, AV6 hlt hx k31]⟩
  omega
 intro h17
 have k17 := of_decide_eq_false h17; try simp only [A9] at k17
 have hge : bs (fun x => f x v) l 0 l.length = i := by rw [hinv.2.2, AK9 (by omega)]
 obtain ⟨y, hy⟩ := AB1 l i
 refine G9 ?_
 refine A3 (A2 ?_)
 refine A5 rfl ?_
 refine A5 rfl ?_
 refine A5 rfl ?_
 refine A1 rfl (K5 rfl (A0 rfl) (A0 rfl)) ?_
 refine A5 rfl ?_
 refine D0 rfl (fun hc => B9 rfl (A0 rfl)) ?_
 refine D0 rfl (fun hc => B9 rfl (A0 rfl)) ?_
 refine D0 rfl (fun hc => B9 rfl (A0 rfl)) ?_
 refine D0 rfl (fun hc => J4 rfl E0 D4 (A6 rfl hc) (A6 rfl hc) (hy (by first | omega | ((try simp only [C9, A8, szR] at *); omega) | (have hc2 := hc; simp only [P4, beq_iff_eq, bne_iff_ne, A9, E4] at hc2; omega))) rfl) ?_
 refine D0 rfl (fun hc => L4 rfl (A6 rfl hc) J3 D4) ?_
 refine D0 rfl (fun hc => B9 rfl (A0 rfl)) ?_
 refine D0 rfl (fun hc => s4 rfl (A6 rfl hc) y v (hp y (G2 (hy (by first | omega | ((try simp only [C9, A8, szR] at *); omega) | (have hc2 := hc; simp only [P4, beq_iff_eq, bne_iff_ne, A9, E4] at hc2; omega))))) (A6 rfl hc) (A6 rfl hc)) ?_
 refine D0 rfl (fun hc => O7 rfl (A6 rfl hc) B6) ?_
 refine A1 rfl (I1 rfl (A0 rfl) (F9 rfl)) ?_
 refine B5 rfl ?_
 refine B5 rfl ?_
 refine A4 ?_
 refine C5 ?_
 exact i6 rfl (by decide) (F2 (B8 rfl (by first | exact congrArg AV.int (by rw [hge]) | exact congrArg AV.bool (by rw [hge]; unfold bsAt; simp only [A9]; cases Nat.lt_or_ge i l.length with | inl hi => (rw [hy hi]; simp [hi]) | inr hi => (rw [List.getElem?_eq_none (by omega)]; simp only [decide_eq_false (show ¬ ((i : Int) < (l.length : Int)) by omega), Bool.false_and])))) (F2 (B8 rfl (by first | exact congrArg AV.int (by rw [hge]) | exact congrArg AV.bool (by rw [hge]; unfold bsAt; simp only [A9]; cases Nat.lt_or_ge i l.length with | inl hi => (rw [hy hi]; simp [hi]) | inr hi => (rw [List.getElem?_eq_none (by omega)]; simp only [decide_eq_false (show ¬ ((i : Int) < (l.length : Int)) by omega), Bool.false_and])))) L7))
theorem AT1 (l : List Str) (v : Str) : FSpec Tryz.prog 231 [strs l, AV.str v] (AV.int (idxFrom (fun x => v == x) l 0)) := by
 refine E9 Tryz.func231 rfl Tryz.ntmps231 rfl ?_
 refine U6 (t := 0) rfl fun hl => ?_
 try simp only [A9] at hl
 refine A3 (A2 ?_)
 refine A1 rfl (B7 rfl B6) ?_
 refine A4 (A3 (A3 (A2 ?_)))
 refine A5 rfl ?_
 refine A1 rfl (H2 rfl E7 (A0 rfl)) ?_
 refine A1 rfl (B9 rfl B6) ?_
 refine A4 (D1 ?_)
 refine J6 [(0, _), (1, _), (7, _)] _ (fun (i : Nat) => i ≤ l.length ∧ idxFrom (fun x => v == x) l 0 = idxFrom (fun x => v == x) (l.drop i) i) (fun (i : Nat) => []) (fun (i : Nat) => [(8, AV.int i)]) (fun (i : Nat) => l.length - i) (0) ?_ (K0 ⟨rfl, rfl, rfl, rfl, trivial⟩) ?_
 ·exact ⟨Nat.zero_le _, rfl⟩
 intro i hinv
 refine A3 (A2 ?_)
 refine A1 rfl (K5 rfl (A0 rfl) (A0 rfl)) ?_
 refine A4 (A3 ?_)
 refine C4 (A0 rfl) ?_ ?_
 ·intro h9
  have k9 := of_decide_eq_true h9; try simp only [A9] at k9
  have hlt : i < l.length := by omega
  obtain ⟨x, hx⟩ := get_some hlt
  refine C8 (A3 (D1 (A3 (A2 ?_))))
  refine A5 rfl ?_
  refine B5 rfl ?_
  refine A4 (A3 (A2 ?_))
  refine A5 rfl ?_
  refine A5 rfl ?_
  refine A5 rfl ?_
  refine A1 rfl (J4 rfl E7 E5 (A0 rfl) (A0 rfl) hx (by first | omega | (simp only [C9, A8, szR] at *; omega))) ?_
  refine A1 rfl (N9 rfl (A0 rfl) F7 rfl) ?_
  refine A1 rfl (w7 rfl (A0 rfl) (A0 rfl)) ?_
  refine A4 ?_
  refine C4 (A0 rfl) ?_ ?_
  ·intro h16
   refine A3 (A2 ?_)
   refine A5 rfl ?_
   refine B5 rfl ?_
   refine A4 ?_
   refine C5 ?_
   exact H9 rfl (B8 rfl (by first | exact congrArg AV.int (by rw [hinv.2, drop_some hx, idxFrom, h16]; rfl) | exact congrArg AV.int (by rw [hinv.2, List.drop_eq_nil_of_le hge]; rfl)))
  intro h16
  refine C8 (A2 ?_)
  refine A1 rfl (G7 rfl (A0 rfl) B6 (by first | omega | (simp only [C9, A8, szR] at *; omega))) ?_
  refine A5 rfl ?_
  refine A4 ?_
  refine L9 i (i + 1) ?_ ?_ (K0 ⟨rfl, rfl, rfl, rfl, trivial⟩)
  ·exact ⟨by omega, by rw [hinv.2, drop_some hx, idxFrom, h16]; simp⟩
  omega
 intro h9
 have k9 := of_decide_eq_false h9; try simp only [A9] at k9
 have hge : l.length ≤ i := by omega
 refine G9 ?_
 refine A3 (A2 ?_)
 refine A1 rfl (B7 rfl B6) ?_
 refine A4 ?_
 refine C5 ?_
 exact H9 rfl (B8 rfl (by first | exact congrArg AV.int (by rw [hinv.2, drop_some hx, idxFrom, h16]; rfl) | exact congrArg AV.int (by rw [hinv.2, List.drop_eq_nil_of_le hge]; rfl)))
theorem AJ9 (l : List Str) (v : Str) : FSpec Tryz.prog 220 [strs l, AV.str v] (AV.bool (l.any fun x => v == x)) := by
 refine E9 Tryz.func220 rfl Tryz.ntmps220 rfl ?_
 refine A3 (A2 ?_)
 refine A1 rfl (B7 rfl F8) ?_
 refine A4 (A3 (A2 ?_))
 refine A5 rfl ?_
 refine A5 rfl ?_
 refine A1 rfl (E8 rfl Tryz.call231 rfl (AT1 _ _) (A7 (A0 rfl) (A7 (A0 rfl) C6))) ?_
 refine A1 rfl (c6 rfl (A0 rfl) B6) ?_
 refine B5 rfl ?_
 refine A4 ?_
 refine C5 ?_
 exact H9 rfl (B8 rfl (by exact congrArg AV.bool (n0 (fun x => v == x) l 0 (Int.le_refl 0))))
theorem Ag8 (l : List TVer) (hl : l.length ≤ 4194304) : GSpec Tryz.prog 121 [AV.list 3 (l.map TVer.cs)] [] (fun _ : Value => True) (fun v => [.arr v 127 3 (l.map TVer.cs)]) (fun v => AV.is v) := by
 refine I9 Tryz.func121 rfl Tryz.ntmps121 rfl ?_
 refine AP5 0 rfl ?_ ?_
 ·intro hnil
  have hn : l = [] := by cases l with | nil => rfl | cons x l => simp at hnil
  subst hn
  refine A3 (A2 ?_)
  refine X5 127 3 rfl rfl rfl rfl M4 ?_
  intro v2
  refine A4 (A3 (A3 (A2 ?_)))
  refine A5 rfl ?_
  refine A1 rfl (Ar7 rfl G8 (A0 rfl)) ?_
  refine A4 ?_
  refine C4 (A0 rfl) ?_ ?_
  ·intro h4
   refine A3 (A2 ?_)
   refine X5 127 3 rfl rfl rfl rfl M4 ?_
   intro v2
   refine A4 ?_
   refine C5 ?_
   exact M3 [0] v2 (trivial) rfl (by rfl) (P7 rfl (B8 rfl (by first | rfl | (refine congrArg AV.bool ?_; simp_all; done))))
  intro h4
  cases h4
 skip
 refine A3 (A2 ?_)
 refine X5 127 3 rfl rfl rfl rfl M4 ?_
 intro v2
 refine A4 (A3 (A3 (A2 ?_)))
 refine A5 rfl ?_
 refine A1 rfl (Ar8 rfl G8 (A0 rfl)) ?_
 refine A4 ?_
 refine C4 (A0 rfl) ?_ ?_
 ·intro h4
  cases h4
 intro h4
 refine C8 (A3 (A2 ?_))
 refine U3 rfl rfl rfl rfl G8 L1 ?_
 intro v5
 refine A5 rfl ?_
 refine N3 (by' := 32) 0 rfl rfl rfl rfl G8 Tryz.type127 rfl rfl rfl rfl rfl rfl (A0 rfl) (Ab4 (A0 rfl) Ak1) rfl (by first | omega | (simp only [C9, A8, szR] at *; omega)) ?_
 intro v7_1
 refine B5 rfl ?_
 refine A4 ?_
 refine C5 ?_
 exact M3 [0] v7_1 (trivial) rfl (by rfl) (P7 rfl (B8 rfl (by first | rfl | (refine congrArg AV.bool ?_; simp_all; done))))
theorem AZ6 (l : List TCell) (hl : l.length ≤ 4194304) : GSpec Tryz.prog 120 [AV.list 2 (l.map TCell.cs)] [] (fun _ : Value => True) (fun v => [.arr v 125 2 (l.map TCell.cs)]) (fun v => AV.is v) := by
 refine I9 Tryz.func120 rfl Tryz.ntmps120 rfl ?_
 refine AP5 0 rfl ?_ ?_
 ·intro hnil
  have hn : l = [] := by cases l with | nil => rfl | cons x l => simp at hnil
  subst hn
  refine A3 (A2 ?_)
  refine X5 125 2 rfl rfl rfl rfl M4 ?_
  intro v2
  refine A4 (A3 (A3 (A2 ?_)))
  refine A5 rfl ?_
  refine A1 rfl (Ar7 rfl C7 (A0 rfl)) ?_
  refine A4 ?_
  refine C4 (A0 rfl) ?_ ?_
  ·intro h4
   refine A3 (A2 ?_)
   refine X5 125 2 rfl rfl rfl rfl M4 ?_
   intro v2
   refine A4 ?_
   refine C5 ?_
   exact M3 [0] v2 (trivial) rfl (by rfl) (P7 rfl (B8 rfl (by first | rfl | (refine congrArg AV.bool ?_; simp_all; done))))
  intro h4
  cases h4
 skip
 refine A3 (A2 ?_)
 refine X5 125 2 rfl rfl rfl rfl M4 ?_
 intro v2
 refine A4 (A3 (A3 (A2 ?_)))
 refine A5 rfl ?_
 refine A1 rfl (Ar8 rfl C7 (A0 rfl)) ?_
 refine A4 ?_
 refine C4 (A0 rfl) ?_ ?_
 ·intro h4
  cases h4
 intro h4
 refine C8 (A3 (A2 ?_))
 refine U3 rfl rfl rfl rfl C7 E2 ?_
 intro v5
 refine A5 rfl ?_
 refine N3 (by' := 40) 0 rfl rfl rfl rfl C7 Tryz.type125 rfl rfl rfl rfl rfl rfl (A0 rfl) (Ab4 (A0 rfl) Ak1) rfl (by first | omega | (simp only [C9, A8, szR] at *; omega)) ?_
 intro v7_1
 refine B5 rfl ?_
 refine A4 ?_
 refine C5 ?_
 exact M3 [0] v7_1 (trivial) rfl (by rfl) (P7 rfl (B8 rfl (by first | rfl | (refine congrArg AV.bool ?_; simp_all; done))))
end Go.Proofs.YtkegepoihkhihaaGreat

namespace Go.Proofs.YtkegepoihkhihaaGreat
open Go Go.AV Go.M
attribute [local irreducible] OpW OpA OpS AWP FSpec ESpec RetOk RvDen Le Ev GuardIs
theorem e9 (t : Int) : FSpec Tryz.prog 111 [AV.int t] (AV.bool (isTime t)) := by
 refine E9 Tryz.func111 rfl Tryz.ntmps111 rfl ?_
 refine A3 (A2 ?_)
 refine A1 rfl (B7 rfl F8) ?_
 refine A4 (A3 (A2 ?_))
 refine A5 rfl ?_
 refine A1 rfl (E8 rfl Tryz.call82 rfl (d3 _ _ _) (A7 (A0 rfl) (A7 B6 (A7 B6 C6)))) ?_
 refine B5 rfl ?_
 refine A4 ?_
 refine C5 ?_
 exact H9 rfl (B8 rfl (by first | rfl | (refine congrArg AV.bool ?_; simp_all; done)))
theorem AB8 (t : Int) : FSpec Tryz.prog 51 [AV.int t] (AV.bool (isGroup t)) := by
 refine E9 Tryz.func51 rfl Tryz.ntmps51 rfl ?_
 refine A3 (A2 ?_)
 refine A1 rfl (B7 rfl F8) ?_
 refine A4 (A3 (A2 ?_))
 refine A5 rfl ?_
 refine A1 rfl (E8 rfl Tryz.call82 rfl (d3 _ _ _) (A7 (A0 rfl) (A7 B6 (A7 B6 C6)))) ?_
 refine B5 rfl ?_
 refine A4 ?_
 refine C5 ?_
 exact H9 rfl (B8 rfl (by first | rfl | (refine congrArg AV.bool ?_; simp_all; done)))
theorem z6 (s : Str) (g : Bool) (hs : s.length ≤ 4611686018427387904) : FSpec Tryz.prog 113 [AV.str s, AV.bool g] (AV.bool (isStored s g)) := by
 refine E9 Tryz.func113 rfl Tryz.ntmps113 rfl ?_
 refine A3 (A2 ?_)
 refine A1 rfl (B7 rfl F8) ?_
 refine A4 (A3 (A2 ?_))
 refine A5 rfl ?_
 refine A1 rfl (E8 rfl Tryz.call167 rfl (Al7 _ (by omega)) (A7 (A0 rfl) C6)) ?_
 refine A5 rfl ?_
 refine D0 rfl (fun hc => B9 rfl (A0 rfl)) ?_
 refine D0 rfl (fun hc => B9 rfl (A6 rfl hc)) ?_
 refine J2 rfl rfl (E1 rfl rfl rfl) (fun hc => B9 rfl (A0 rfl)) ?_
 refine J2 rfl rfl (E1 rfl rfl rfl) (fun hc => AU6 rfl (A6 rfl hc) (R9 (l := []) rfl)) ?_
 refine D0 rfl (fun hc => I1 rfl (A6 rfl hc) (Q0 rfl hc)) ?_
 refine D0 rfl (fun hc => M5 rfl (A6 rfl hc)) ?_
 refine A1 rfl (I1 rfl (A0 rfl) (F9 rfl)) ?_
 refine B5 rfl ?_
 refine A4 ?_
 refine C5 ?_
 exact H9 rfl (B8 rfl (by first | rfl | (refine congrArg AV.bool ?_; simp_all; done)))
theorem Ag9 (c : TFeedItem) (hs : c.size ≤ 1048576) : FSpec Tryz.prog 72 [AV.agg c.cs] (AV.bool (goodItem c)) := by
 have hs' := hs; unfold TFeedItem.size at hs'
 refine E9 Tryz.func72 rfl Tryz.ntmps72 rfl ?_
 refine A3 (A2 ?_)
 refine O3 rfl rfl rfl rfl (A0 rfl) ?_
 intro b1
 refine A1 rfl (B7 rfl F8) ?_
 refine A4 (A3 (A2 ?_))
 refine A1 rfl (B1 0 rfl J0 rfl B4 (A0 rfl) rfl) ?_
 refine A1 rfl (B0 0 rfl (A0 rfl) rfl C2 rfl) ?_
 refine A1 rfl (E8 rfl Tryz.call111 rfl (e9 _) (A7 (A0 rfl) C6)) ?_
 refine A5 rfl ?_
 refine D0 rfl (fun hc => B1 1 rfl J0 rfl B4 (A0 rfl) rfl) ?_
 refine D0 rfl (fun hc => B0 0 rfl (A6 rfl hc) rfl C2 rfl) ?_
 refine D0 rfl (fun hc => E8 rfl Tryz.call51 rfl (AB8 _) (A7 (A6 rfl hc) C6)) ?_
 refine A1 rfl (I1 rfl (A0 rfl) (F9 rfl)) ?_
 refine A5 rfl ?_
 refine D0 rfl (fun hc => B1 2 rfl J0 rfl E5 (A0 rfl) rfl) ?_
 refine D0 rfl (fun hc => B0 0 rfl (A6 rfl hc) rfl F7 rfl) ?_
 refine D0 rfl (fun hc => E8 rfl Tryz.call112 rfl (AM2 _ (by omega)) (A7 (A6 rfl hc) C6)) ?_
 refine A1 rfl (I1 rfl (A0 rfl) (F9 rfl)) ?_
 refine A5 rfl ?_
 refine D0 rfl (fun hc => B1 3 rfl J0 rfl E5 (A0 rfl) rfl) ?_
 refine D0 rfl (fun hc => B0 0 rfl (A6 rfl hc) rfl F7 rfl) ?_
 refine D0 rfl (fun hc => B1 4 rfl J0 rfl J1 (A0 rfl) rfl) ?_
 refine D0 rfl (fun hc => B0 0 rfl (A6 rfl hc) rfl K9 rfl) ?_
 refine D0 rfl (fun hc => E8 rfl Tryz.call113 rfl (z6 _ _ (by omega)) (A7 (A6 rfl hc) (A7 (A6 rfl hc) C6))) ?_
 refine A1 rfl (I1 rfl (A0 rfl) (F9 rfl)) ?_
 refine B5 rfl ?_
 refine A4 ?_
 refine C5 ?_
 exact H9 rfl (B8 rfl (by first | rfl | (refine congrArg AV.bool ?_; simp_all; done)))
theorem Av5 (s : Str) (hs : s.length ≤ 4611686018427387904) : FSpec Tryz.prog 207 [AV.str s] (AV.bool (l3Val s)) := by
 refine E9 Tryz.func207 rfl Tryz.ntmps207 rfl ?_
 refine A3 (A2 ?_)
 refine A1 rfl (B7 rfl F8) ?_
 refine A4 (A3 (A2 ?_))
 refine A5 rfl ?_
 refine A1 rfl (AB3 rfl M6 (A0 rfl)) ?_
 refine A1 rfl (V0 rfl (A0 rfl) B6) ?_
 refine A5 rfl ?_
 refine D0 rfl (fun hc => B9 rfl (A0 rfl)) ?_
 refine D0 rfl (fun hc => E8 rfl Tryz.call223 rfl (AM1 _ _ (by omega) (by decide)) (A7 (A6 rfl hc) (A7 (R9 (l := [46, 45, 44, 95]) rfl) C6))) ?_
 refine A1 rfl (I1 rfl (A0 rfl) (F9 rfl)) ?_
 refine B5 rfl ?_
 refine A4 ?_
 refine C5 ?_
 exact H9 rfl (B8 rfl (by first | rfl | (refine congrArg AV.bool ?_; simp_all; done)))
theorem AM4 (k s : Str) (g : Bool) (hk : k.length ≤ 4611686018427387904) (hs : s.length ≤ 4611686018427387904) : FSpec Tryz.prog 165 [AV.str k, AV.str s, AV.bool g] (AV.bool (l3Write k s g)) := by
 refine E9 Tryz.func165 rfl Tryz.ntmps165 rfl ?_
 refine A3 (A2 ?_)
 refine A1 rfl (B7 rfl F8) ?_
 refine A4 (A3 (A2 ?_))
 refine A5 rfl ?_
 refine A1 rfl (E8 rfl Tryz.call198 rfl (AI3 _ (by omega)) (A7 (A0 rfl) C6)) ?_
 refine A5 rfl ?_
 refine D0 rfl (fun hc => B9 rfl (A0 rfl)) ?_
 refine D0 rfl (fun hc => E8 rfl Tryz.call207 rfl (Av5 _ (by omega)) (A7 (A6 rfl hc) C6)) ?_
 refine A1 rfl (I1 rfl (A0 rfl) (F9 rfl)) ?_
 refine A5 rfl ?_
 refine D0 rfl (fun hc => B9 rfl (A0 rfl)) ?_
 refine D0 rfl (fun hc => M5 rfl (A6 rfl hc)) ?_
 refine D0 rfl (fun hc => B9 rfl (A6 rfl hc)) ?_
 refine J2 rfl rfl (P5 rfl rfl rfl) (fun hc => B9 rfl (A0 rfl)) ?_
 refine J2 rfl rfl (P5 rfl rfl rfl) (fun hc => w7 rfl (A6 rfl hc) (R9 (l := []) rfl)) ?_
 refine D0 rfl (fun hc => R5 rfl (A6 rfl hc) (Q0 rfl hc)) ?_
 refine A1 rfl (I1 rfl (A0 rfl) (F9 rfl)) ?_
 refine B5 rfl ?_
 refine A4 ?_
 refine C5 ?_
 exact H9 rfl (B8 rfl (by first | rfl | (refine congrArg AV.bool ?_; simp_all; done)))
theorem AJ4 (t : Int) : FSpec Tryz.prog 159 [AV.int t] (AV.bool false) := by
 refine E9 Tryz.func159 rfl Tryz.ntmps159 rfl ?_
 refine A3 (A2 ?_)
 refine A1 rfl (B7 rfl F8) ?_
 refine A4 (A3 (A2 ?_))
 refine A5 rfl ?_
 refine A5 rfl ?_
 refine A1 rfl (n4 rfl (A0 rfl) (A0 rfl)) ?_
 refine B5 rfl ?_
 refine A4 ?_
 refine C5 ?_
 exact H9 rfl (B8 rfl (by exact congrArg AV.bool (by simp)))
theorem AJ5 (t : Str) : FSpec Tryz.prog 160 [AV.str t] (AV.bool false) := by
 refine E9 Tryz.func160 rfl Tryz.ntmps160 rfl ?_
 refine A3 (A2 ?_)
 refine A1 rfl (B7 rfl F8) ?_
 refine A4 (A3 (A2 ?_))
 refine A5 rfl ?_
 refine A5 rfl ?_
 refine A1 rfl (AU6 rfl (A0 rfl) (A0 rfl)) ?_
 refine B5 rfl ?_
 refine A4 ?_
 refine C5 ?_
 exact H9 rfl (B8 rfl (by exact congrArg AV.bool (by simp)))
theorem AE9 (x y : Int) : FSpec Tryz.prog 104 [AV.int x, AV.int y] (AV.int (cmpInt x y)) := by
 refine E9 Tryz.func104 rfl Tryz.ntmps104 rfl ?_
 refine A3 (A2 ?_)
 refine A1 rfl (B7 rfl B6) ?_
 refine A4 (A3 (A2 ?_))
 refine A5 rfl ?_
 refine A1 rfl (E8 rfl Tryz.call159 rfl (AJ4 _) (A7 (A0 rfl) C6)) ?_
 refine B5 rfl ?_
 refine A4 (A3 (A2 ?_))
 refine A5 rfl ?_
 refine A1 rfl (E8 rfl Tryz.call159 rfl (AJ4 _) (A7 (A0 rfl) C6)) ?_
 refine B5 rfl ?_
 refine A4 (A3 (A3 (A2 ?_)))
 refine A5 rfl ?_
 refine A4 ?_
 refine C4 (A0 rfl) ?_ ?_
 ·intro h11
  cases h11
 intro h11
 refine C8 (A3 (A3 (A2 ?_)))
 refine A5 rfl ?_
 refine A4 ?_
 refine C4 (A0 rfl) ?_ ?_
 ·intro h13
  cases h13
 intro h13
 refine C8 (A3 (A3 (A2 ?_)))
 refine A5 rfl ?_
 refine A5 rfl ?_
 refine A1 rfl (K5 rfl (A0 rfl) (A0 rfl)) ?_
 refine A4 ?_
 refine C4 (A0 rfl) ?_ ?_
 ·intro h16
  have k16 := of_decide_eq_true h16; try simp only [A9] at k16
  refine A3 (A2 ?_)
  refine A1 rfl (B7 rfl B6) ?_
  refine A4 ?_
  refine C5 ?_
  exact H9 rfl (B8 rfl (by exact congrArg AV.int (by unfold cmpInt; (repeat' split) <;> omega)))
 intro h16
 have k16 := of_decide_eq_false h16; try simp only [A9] at k16
 refine C8 (A3 (A3 (A2 ?_)))
 refine A5 rfl ?_
 refine A5 rfl ?_
 refine A1 rfl (O8 rfl (A0 rfl) (A0 rfl)) ?_
 refine A4 ?_
 refine C4 (A0 rfl) ?_ ?_
 ·intro h19
  have k19 := of_decide_eq_true h19; try simp only [A9] at k19
  refine A3 (A2 ?_)
  refine A1 rfl (B7 rfl B6) ?_
  refine A4 ?_
  refine C5 ?_
  exact H9 rfl (B8 rfl (by exact congrArg AV.int (by unfold cmpInt; (repeat' split) <;> omega)))
 intro h19
 have k19 := of_decide_eq_false h19; try simp only [A9] at k19
 refine C8 (A3 (A2 ?_))
 refine A1 rfl (B7 rfl B6) ?_
 refine A4 ?_
 refine C5 ?_
 exact H9 rfl (B8 rfl (by exact congrArg AV.int (by unfold cmpInt; (repeat' split) <;> omega)))
theorem AF0 (x y : Str) : FSpec Tryz.prog 105 [AV.str x, AV.str y] (AV.int (cmpStr x y)) := by
 refine E9 Tryz.func105 rfl Tryz.ntmps105 rfl ?_
 refine A3 (A2 ?_)
 refine A1 rfl (B7 rfl B6) ?_
 refine A4 (A3 (A2 ?_))
 refine A5 rfl ?_
 refine A1 rfl (E8 rfl Tryz.call160 rfl (AJ5 _) (A7 (A0 rfl) C6)) ?_
 refine B5 rfl ?_
 refine A4 (A3 (A2 ?_))
 refine A5 rfl ?_
 refine A1 rfl (E8 rfl Tryz.call160 rfl (AJ5 _) (A7 (A0 rfl) C6)) ?_
 refine B5 rfl ?_
 refine A4 (A3 (A3 (A2 ?_)))
 refine A5 rfl ?_
 refine A4 ?_
 refine C4 (A0 rfl) ?_ ?_
 ·intro h11
  cases h11
 intro h11
 refine C8 (A3 (A3 (A2 ?_)))
 refine A5 rfl ?_
 refine A4 ?_
 refine C4 (A0 rfl) ?_ ?_
 ·intro h13
  cases h13
 intro h13
 refine C8 (A3 (A3 (A2 ?_)))
 refine A5 rfl ?_
 refine A5 rfl ?_
 refine A1 rfl (w_slss rfl (A0 rfl) (A0 rfl)) ?_
 refine A4 ?_
 refine C4 (A0 rfl) ?_ ?_
 ·intro h16
  refine A3 (A2 ?_)
  refine A1 rfl (B7 rfl B6) ?_
  refine A4 ?_
  refine C5 ?_
  exact H9 rfl (B8 rfl (by exact congrArg AV.int (by have := bytesLess_tri y x; unfold cmpStr; simp_all)))
 intro h16
 refine C8 (A3 (A3 (A2 ?_)))
 refine A5 rfl ?_
 refine A5 rfl ?_
 refine A1 rfl (Aj4 rfl (A0 rfl) (A0 rfl)) ?_
 refine A4 ?_
 refine C4 (A0 rfl) ?_ ?_
 ·intro h19
  refine A3 (A2 ?_)
  refine A1 rfl (B7 rfl B6) ?_
  refine A4 ?_
  refine C5 ?_
  exact H9 rfl (B8 rfl (by exact congrArg AV.int (by have := bytesLess_tri y x; unfold cmpStr; simp_all)))
 intro h19
 refine C8 (A3 (A2 ?_))
 refine A1 rfl (B7 rfl B6) ?_
 refine A4 ?_
 refine C5 ?_
 exact H9 rfl (B8 rfl (by exact congrArg AV.int (by have := bytesLess_tri y x; unfold cmpStr; simp_all)))
theorem Av6 (l : List Int) : FSpec Tryz.prog 103 [ints l] (AV.int (orInt l)) := by
 refine E9 Tryz.func103 rfl Tryz.ntmps103 rfl ?_
 refine U6 (t := 0) rfl fun hl => ?_
 try simp only [A9] at hl
 refine A3 (A2 ?_)
 refine A1 rfl (B7 rfl B6) ?_
 refine A4 (A3 (A2 ?_))
 refine A1 rfl (B7 rfl B6) ?_
 refine A4 (A3 (A3 (A2 ?_)))
 refine A5 rfl ?_
 refine A1 rfl (H2 rfl T3 (A0 rfl)) ?_
 refine A1 rfl (B9 rfl B6) ?_
 refine A4 (D1 ?_)
 refine J6 [(3, _), (6, _), (7, _)] _ (fun (i : Nat) => i ≤ l.length ∧ orInt l = orInt (l.drop i)) (fun (i : Nat) => []) (fun (i : Nat) => [(8, AV.int i)]) (fun (i : Nat) => l.length - i) (0) ?_ (K0 ⟨rfl, rfl, rfl, rfl, trivial⟩) ?_
 ·exact ⟨Nat.zero_le _, rfl⟩
 intro i hinv
 refine A3 (A2 ?_)
 refine A1 rfl (K5 rfl (A0 rfl) (A0 rfl)) ?_
 refine A4 (A3 ?_)
 refine C4 (A0 rfl) ?_ ?_
 ·intro h9
  have k9 := of_decide_eq_true h9; try simp only [A9] at k9
  have hlt : i < l.length := by omega
  obtain ⟨x, hx⟩ := get_some hlt
  refine C8 (A3 (D1 (A3 (A2 ?_))))
  refine A1 rfl (p8 rfl T3 B4 (A0 rfl) (A0 rfl) (by omega) (by simp only [Int.toNat_natCast, List.getElem?_map, hx, Option.map_some]; try rfl)) ?_
  refine A1 rfl (N9 rfl (A0 rfl) C2 rfl) ?_
  refine B5 rfl ?_
  refine A4 (A3 (A2 ?_))
  refine A5 rfl ?_
  refine A5 rfl ?_
  refine A1 rfl (n4 rfl (A0 rfl) (A0 rfl)) ?_
  refine A4 ?_
  refine C4 (A0 rfl) ?_ ?_
  ·intro h14
   have k14 := k6 h14; try simp only [A9] at k14
   refine A3 (A2 ?_)
   refine A5 rfl ?_
   refine B5 rfl ?_
   refine A4 ?_
   refine C5 ?_
   exact H9 rfl (B8 rfl (by first | exact congrArg AV.int (by rw [hinv.2, drop_some hx, orInt]; simp [k14]) | exact congrArg AV.int (by rw [hinv.2, List.drop_eq_nil_of_le hge]; rfl)))
  intro h14
  have k14 := X9 h14; try simp only [A9] at k14
  refine C8 (A2 ?_)
  refine A1 rfl (G7 rfl (A0 rfl) B6 (by first | omega | (simp only [C9, A8, szR] at *; omega))) ?_
  refine A5 rfl ?_
  refine A4 ?_
  refine L9 i (i + 1) ?_ ?_ (K0 ⟨rfl, rfl, rfl, rfl, trivial⟩)
  ·exact ⟨by omega, by rw [hinv.2, drop_some hx, orInt]; simp [k14]⟩
  omega
 intro h9
 have k9 := of_decide_eq_false h9; try simp only [A9] at k9
 have hge : l.length ≤ i := by omega
 refine G9 ?_
 refine A3 (A2 ?_)
 refine A5 rfl ?_
 refine B5 rfl ?_
 refine A4 ?_
 refine C5 ?_
 exact H9 rfl (B8 rfl (by first | exact congrArg AV.int (by rw [hinv.2, drop_some hx, orInt]; simp [k14]) | exact congrArg AV.int (by rw [hinv.2, List.drop_eq_nil_of_le hge]; rfl)))
theorem AP1 (a b : TFeedItem) : FSpec Tryz.prog 64 [AV.agg a.cs, AV.agg b.cs] (AV.int (compareItems a b)) := by
 refine E9 Tryz.func64 rfl Tryz.ntmps64 rfl ?_
 refine A3 (A2 ?_)
 refine O3 rfl rfl rfl rfl (A0 rfl) ?_
 intro b2
 refine O3 rfl rfl rfl rfl (A0 rfl) ?_
 intro b3
 refine A1 rfl (B7 rfl B6) ?_
 refine A4 (A3 ?_)
 refine J5 (by kernel_rfl) (by kernel_rfl) rfl ?_
 refine B2 rfl rfl (B1 0 rfl J0 rfl B4 (A0 rfl) rfl) ?_
 refine B2 rfl rfl (B0 1 rfl (A0 rfl) rfl C2 rfl) ?_
 refine B2 rfl rfl (B1 0 rfl J0 rfl B4 (A0 rfl) rfl) ?_
 refine B2 rfl rfl (B0 0 rfl (A0 rfl) rfl C2 rfl) ?_
 refine B2 rfl rfl (E8 rfl Tryz.call104 rfl (AE9 _ _) (A7 (A0 rfl) (A7 (A0 rfl) C6))) ?_
 refine B2 rfl rfl (B1 1 rfl J0 rfl B4 (A0 rfl) rfl) ?_
 refine B2 rfl rfl (B0 1 rfl (A0 rfl) rfl C2 rfl) ?_
 refine B2 rfl rfl (B1 1 rfl J0 rfl B4 (A0 rfl) rfl) ?_
 refine B2 rfl rfl (B0 0 rfl (A0 rfl) rfl C2 rfl) ?_
 refine B2 rfl rfl (E8 rfl Tryz.call104 rfl (AE9 _ _) (A7 (A0 rfl) (A7 (A0 rfl) C6))) ?_
 refine B2 rfl rfl (B1 2 rfl J0 rfl E5 (A0 rfl) rfl) ?_
 refine B2 rfl rfl (B0 1 rfl (A0 rfl) rfl F7 rfl) ?_
 refine B2 rfl rfl (B1 2 rfl J0 rfl E5 (A0 rfl) rfl) ?_
 refine B2 rfl rfl (B0 0 rfl (A0 rfl) rfl F7 rfl) ?_
 refine B2 rfl rfl (E8 rfl Tryz.call105 rfl (AF0 _ _) (A7 (A0 rfl) (A7 (A0 rfl) C6))) ?_
 refine B2 rfl rfl (L2 rfl T3 B4 Tryz.zeroValue3 rfl rfl rfl rfl (D3 (A0 rfl) (K4 _ _) (D3 (A0 rfl) (K4 _ _) (D3 (A0 rfl) (K4 _ _) I2))) rfl rfl) ?_
 refine B2 rfl rfl (E8 rfl Tryz.call103 rfl (Av6 [_, _, _]) (A7 (A0 rfl) C6)) ?_
 refine B2 rfl rfl (B7 rfl (A0 rfl)) ?_
 refine P2 ?_
 refine C5 ?_
 exact H9 rfl (B8 rfl (by first | rfl | (refine congrArg AV.bool ?_; simp_all; done)))
theorem AJ6 (a b : TFeedItem) : FSpec Tryz.prog 109 [AV.agg a.cs, AV.agg b.cs] (AV.bool (l23Ahead a b)) := by
 refine E9 Tryz.func109 rfl Tryz.ntmps109 rfl ?_
 refine A3 (A2 ?_)
 refine O3 rfl rfl rfl rfl (A0 rfl) ?_
 intro b2
 refine O3 rfl rfl rfl rfl (A0 rfl) ?_
 intro b3
 refine A1 rfl (B7 rfl F8) ?_
 refine A4 (A3 (A3 (A2 ?_)))
 refine A1 rfl (B1 0 rfl J0 rfl B4 (A0 rfl) rfl) ?_
 refine A1 rfl (B0 1 rfl (A0 rfl) rfl C2 rfl) ?_
 refine A1 rfl (B1 0 rfl J0 rfl B4 (A0 rfl) rfl) ?_
 refine A1 rfl (B0 0 rfl (A0 rfl) rfl C2 rfl) ?_
 refine A1 rfl (n4 rfl (A0 rfl) (A0 rfl)) ?_
 refine A4 ?_
 refine C4 (A0 rfl) ?_ ?_
 ·intro h9
  have k9 := k6 h9; try simp only [A9] at k9
  refine A3 (A2 ?_)
  refine A1 rfl (B1 0 rfl J0 rfl B4 (A0 rfl) rfl) ?_
  refine A1 rfl (B0 1 rfl (A0 rfl) rfl C2 rfl) ?_
  refine A1 rfl (B1 0 rfl J0 rfl B4 (A0 rfl) rfl) ?_
  refine A1 rfl (B0 0 rfl (A0 rfl) rfl C2 rfl) ?_
  refine A1 rfl (K5 rfl (A0 rfl) (A0 rfl)) ?_
  refine B5 rfl ?_
  refine A4 ?_
  refine C5 ?_
  exact H9 rfl (B8 rfl (by exact congrArg AV.bool (by unfold l23Ahead; simp_all)))
 intro h9
 have k9 := X9 h9; try simp only [A9] at k9
 refine C8 (A3 (A3 (A2 ?_)))
 refine A1 rfl (B1 1 rfl J0 rfl B4 (A0 rfl) rfl) ?_
 refine A1 rfl (B0 1 rfl (A0 rfl) rfl C2 rfl) ?_
 refine A1 rfl (B1 1 rfl J0 rfl B4 (A0 rfl) rfl) ?_
 refine A1 rfl (B0 0 rfl (A0 rfl) rfl C2 rfl) ?_
 refine A1 rfl (n4 rfl (A0 rfl) (A0 rfl)) ?_
 refine A4 ?_
 refine C4 (A0 rfl) ?_ ?_
 ·intro h19
  have k19 := k6 h19; try simp only [A9] at k19
  refine A3 (A2 ?_)
  refine A1 rfl (B1 1 rfl J0 rfl B4 (A0 rfl) rfl) ?_
  refine A1 rfl (B0 1 rfl (A0 rfl) rfl C2 rfl) ?_
  refine A1 rfl (B1 1 rfl J0 rfl B4 (A0 rfl) rfl) ?_
  refine A1 rfl (B0 0 rfl (A0 rfl) rfl C2 rfl) ?_
  refine A1 rfl (K5 rfl (A0 rfl) (A0 rfl)) ?_
  refine B5 rfl ?_
  refine A4 ?_
  refine C5 ?_
  exact H9 rfl (B8 rfl (by exact congrArg AV.bool (by unfold l23Ahead; simp_all)))
 intro h19
 have k19 := X9 h19; try simp only [A9] at k19
 refine C8 (A3 (A2 ?_))
 refine A1 rfl (B1 2 rfl J0 rfl E5 (A0 rfl) rfl) ?_
 refine A1 rfl (B0 1 rfl (A0 rfl) rfl F7 rfl) ?_
 refine A1 rfl (B1 2 rfl J0 rfl E5 (A0 rfl) rfl) ?_
 refine A1 rfl (B0 0 rfl (A0 rfl) rfl F7 rfl) ?_
 refine A1 rfl (w_slss rfl (A0 rfl) (A0 rfl)) ?_
 refine B5 rfl ?_
 refine A4 ?_
 refine C5 ?_
 exact H9 rfl (B8 rfl (by exact congrArg AV.bool (by unfold l23Ahead; simp_all)))
theorem Ap4 (l : List TFeedItem) : FSpec Tryz.prog 65 [AV.list 5 (l.map TFeedItem.cs)] (AV.bool (isFeed l)) := by
 refine E9 Tryz.func65 rfl Tryz.ntmps65 rfl ?_
 refine U6 (t := 0) rfl fun hl => ?_
 try simp only [A9] at hl
 refine A3 (A2 ?_)
 refine A1 rfl (B7 rfl F8) ?_
 refine A4 (A3 (A3 (A2 ?_)))
 refine A5 rfl ?_
 refine A1 rfl (H2 rfl I6 (A0 rfl)) ?_
 refine A1 rfl (B9 rfl B6) ?_
 refine A4 (D1 ?_)
 refine J6 [(0, _), (5, _)] _ (fun (i : Nat) => i ≤ l.length ∧ adj (fun a b => !decide (0 ≤ compareItems a b)) l = adj (fun a b => !decide (0 ≤ compareItems a b)) (l.drop (i - 1))) (fun (i : Nat) => []) (fun (i : Nat) => [(6, AV.int i)]) (fun (i : Nat) => l.length - i) (0) ?_ (K0 ⟨rfl, rfl, rfl, trivial⟩) ?_
 ·exact ⟨Nat.zero_le _, rfl⟩
 intro i hinv
 refine A3 (A2 ?_)
 refine A1 rfl (K5 rfl (A0 rfl) (A0 rfl)) ?_
 refine A4 (A3 ?_)
 refine C4 (A0 rfl) ?_ ?_
 ·intro h7
  have k7 := of_decide_eq_true h7; try simp only [A9] at k7
  have hlt : i < l.length := by omega
  obtain ⟨x, hx⟩ := get_some hlt
  obtain ⟨y, hy⟩ := get_some (show i - 1 < l.length by omega)
  refine C8 (A3 (D1 (A3 (A2 ?_))))
  refine A5 rfl ?_
  refine B5 rfl ?_
  refine A4 (A3 ?_)
  refine J5 (by kernel_rfl) (by kernel_rfl) rfl ?_
  refine B2 rfl rfl (B9 rfl (A0 rfl)) ?_
  refine B2 rfl rfl (O8 rfl (A0 rfl) B6) ?_
  refine B2 rfl rfl (B9 rfl (A0 rfl)) ?_
  refine D2 rfl (H1 rfl rfl rfl) (fun hc => B9 rfl (A0 rfl)) ?_
  refine D2 rfl (H1 rfl rfl rfl) (fun hc => B9 rfl (A0 rfl)) ?_
  refine D2 rfl (H1 rfl rfl rfl) (fun hc => P9 rfl (A6 rfl hc) B6 (by first | omega | ((try simp only [C9, A8, szR] at *); omega) | (have hc2 := hc; simp only [P4, beq_iff_eq, bne_iff_ne, A9, E4] at hc2; omega))) ?_
  refine D2 rfl (H1 rfl rfl rfl) (fun hc => p8 rfl I6 L3 (A6 rfl hc) (A6 rfl hc) (by have := of_decide_eq_true hc; omega) (by have := of_decide_eq_true hc; rw [show ((i : Int) - 1).toNat = i - 1 by omega]; simp only [List.getElem?_map, hy, Option.map_some]; try rfl)) ?_
  refine D2 rfl (H1 rfl rfl rfl) (fun hc => L4 rfl (A6 rfl hc) U1 L3) ?_
  refine D2 rfl (H1 rfl rfl rfl) (fun hc => B9 rfl (A0 rfl)) ?_
  refine D2 rfl (H1 rfl rfl rfl) (fun hc => B9 rfl (A0 rfl)) ?_
  refine D2 rfl (H1 rfl rfl rfl) (fun hc => p8 rfl I6 L3 (A6 rfl hc) (A6 rfl hc) (by omega) (by simp only [Int.toNat_natCast, List.getElem?_map, hx, Option.map_some]; try rfl)) ?_
  refine D2 rfl (H1 rfl rfl rfl) (fun hc => L4 rfl (A6 rfl hc) U1 L3) ?_
  refine D2 rfl (H1 rfl rfl rfl) (fun hc => E8 rfl Tryz.call64 rfl (AP1 _ _) (A7 (A6 rfl hc) (A7 (A6 rfl hc) C6))) ?_
  refine D2 rfl (H1 rfl rfl rfl) (fun hc => c6 rfl (A6 rfl hc) B6) ?_
  refine B2 rfl rfl (I1 rfl (A0 rfl) (F9 rfl)) ?_
  refine P2 ?_
  refine C4 (A0 rfl) ?_ ?_
  ·intro h23
   have hfin : isFeed l = false := by unfold isFeed; simp only [Bool.and_eq_true, decide_eq_true_eq] at h23; rw [hinv.2, o3 hx hy (by omega) (by simp [h23.2]), Bool.false_and]
   refine A3 (A2 ?_)
   refine A1 rfl (B7 rfl F8) ?_
   refine A4 ?_
   refine C5 ?_
   exact H9 rfl (B8 rfl (by first | exact congrArg AV.bool hfin.symm | exact congrArg AV.bool (by unfold isFeed; rw [hinv.2, c3 hge]; simp)))
  intro h23
  refine C8 (A2 ?_)
  refine A1 rfl (G7 rfl (A0 rfl) B6 (by first | omega | (simp only [C9, A8, szR] at *; omega))) ?_
  refine A5 rfl ?_
  refine A4 ?_
  refine L9 i (i + 1) ?_ ?_ (K0 ⟨rfl, rfl, rfl, trivial⟩)
  ·exact ⟨by omega, by rw [hinv.2]; exact o1 hx hy (fun h0 => by simp_all)⟩
  omega
 intro h7
 have k7 := of_decide_eq_false h7; try simp only [A9] at k7
 have hge : l.length ≤ i := by omega
 refine G9 ?_
 refine A3 (A2 ?_)
 refine A5 rfl ?_
 refine A1 rfl (H2 rfl I6 (A0 rfl)) ?_
 refine A1 rfl (V0 rfl (A0 rfl) B6) ?_
 refine B5 rfl ?_
 refine A4 ?_
 refine C5 ?_
 exact H9 rfl (B8 rfl (by first | exact congrArg AV.bool hfin.symm | exact congrArg AV.bool (by unfold isFeed; rw [hinv.2, c3 hge]; simp)))
theorem AZ7 (c : TFeedItem) (hs : c.size ≤ 1048576) : FSpec Tryz.prog 71 [AV.agg c.cs] (AV.bool (!goodItem c)) := by
 refine E9 Tryz.func71 rfl Tryz.ntmps71 rfl ?_
 refine A3 (A2 ?_)
 refine O3 rfl rfl rfl rfl (A0 rfl) ?_
 intro b1
 refine A1 rfl (B7 rfl F8) ?_
 refine A4 (A3 (A2 ?_))
 refine A1 rfl (G5 0 rfl (A0 rfl) rfl U1 L3 rfl) ?_
 refine A1 rfl (E8 rfl Tryz.call72 rfl (Ag9 _ (by assumption)) (A7 (A0 rfl) C6)) ?_
 refine A1 rfl (M5 rfl (A0 rfl)) ?_
 refine B5 rfl ?_
 refine A4 ?_
 refine C5 ?_
 exact H9 rfl (B8 rfl (by first | rfl | (refine congrArg AV.bool ?_; simp_all; done)))
theorem Ah0 (l : List TFeedItem) (hs : sizeL TFeedItem.size l ≤ 1048576) : FSpec Tryz.prog 32 [AV.list 5 (l.map TFeedItem.cs)] (AV.bool (goodFeed l)) := by
 have hm : ∀ x ∈ l, x.size ≤ 1048576 := fun x hx => Nat.le_trans (o9 hx) hs
 refine E9 Tryz.func32 rfl Tryz.ntmps32 rfl ?_
 refine A3 (A2 ?_)
 refine A1 rfl (B7 rfl F8) ?_
 refine A4 (A3 (A2 ?_))
 refine A5 rfl ?_
 refine A1 rfl (E8 rfl Tryz.call65 rfl (Ap4 _) (A7 (A0 rfl) C6)) ?_
 refine A5 rfl ?_
 refine D0 rfl (fun hc => B9 rfl (A0 rfl)) ?_
 refine D0 rfl (fun hc => E8 rfl Tryz.call70 rfl (AA5 _ _ _ (by first | (intros; trivial) | assumption | (intros; first | trivial | (simp_all; done)))) (A7 (A6 rfl hc) (A7 (Ar4 Tryz.call71 (fun c h => AZ7 c h)) C6))) ?_
 refine D0 rfl (fun hc => M5 rfl (A6 rfl hc)) ?_
 refine A1 rfl (I1 rfl (A0 rfl) (F9 rfl)) ?_
 refine B5 rfl ?_
 refine A4 ?_
 refine C5 ?_
 exact H9 rfl (B8 rfl (by first | rfl | (refine congrArg AV.bool ?_; simp_all; done)))
end Go.Proofs.YtkegepoihkhihaaGreat

namespace Go.Proofs.YtkegepoihkhihaaGreat
open Go Go.AV Go.M
attribute [local irreducible] OpW OpA OpS AWP FSpec ESpec RetOk RvDen Le Ev GuardIs
end Go.Proofs.YtkegepoihkhihaaGreat

namespace Go.Proofs.YtkegepoihkhihaaGreat
open Go Go.AV Go.M
attribute [local irreducible] OpW OpA OpS AWP FSpec ESpec RetOk RvDen Le Ev GuardIs
theorem Av7 {l : List TWrite} (h : sizeL TWrite.size l ≤ 4194304) : ∀ k ∈ wKeys l, k.length ≤ 4611686018427387904 := fun k hk => by
  obtain ⟨w, hw, rfl⟩ := List.mem_map.1 hk
  have := o9 (f := TWrite.size) hw
  have h2 : w.size = w.Key.length + w.Val.length := rfl
  omega
theorem s9 (l : List Str) (hs : ∀ k ∈ l, k.length ≤ 4611686018427387904) : FSpec Tryz.prog 119 [strs l] (AV.bool (areRising l)) := by
 refine E9 Tryz.func119 rfl Tryz.ntmps119 rfl ?_
 refine U6 (t := 0) rfl fun hl => ?_
 try simp only [A9] at hl
 refine A3 (A2 ?_)
 refine A1 rfl (B7 rfl F8) ?_
 refine A4 (A3 (A3 (A2 ?_)))
 refine A5 rfl ?_
 refine A1 rfl (H2 rfl E7 (A0 rfl)) ?_
 refine A1 rfl (B9 rfl B6) ?_
 refine A4 (D1 ?_)
 refine J6 [(0, _), (5, _), (6, _)] _ (fun (i : Nat) => i ≤ l.length ∧ areRising l = ((l.drop i).all goodKey && adj Op.bytesLess (l.drop (i - 1)))) (fun (i : Nat) => []) (fun (i : Nat) => [(7, AV.int i)]) (fun (i : Nat) => l.length - i) (0) ?_ (K0 ⟨rfl, rfl, rfl, rfl, trivial⟩) ?_
 ·exact ⟨Nat.zero_le _, rfl⟩
 intro i hinv
 refine A3 (A2 ?_)
 refine A1 rfl (K5 rfl (A0 rfl) (A0 rfl)) ?_
 refine A4 (A3 ?_)
 refine C4 (A0 rfl) ?_ ?_
 ·intro h8
  have k8 := of_decide_eq_true h8; try simp only [A9] at k8
  have hlt : i < l.length := by omega
  obtain ⟨x, hx⟩ := get_some hlt
  obtain ⟨y, hy⟩ := get_some (show i - 1 < l.length by omega)
  have hsx := hs x (G2 hx)
  refine C8 (A3 (D1 (A3 (A2 ?_))))
  refine A5 rfl ?_
  refine A1 rfl (J4 rfl E7 E5 (A0 rfl) (A0 rfl) hx (by first | omega | (simp only [C9, A8, szR] at *; omega))) ?_
  refine A1 rfl (N9 rfl (A0 rfl) F7 rfl) ?_
  refine B5 rfl ?_
  refine B5 rfl ?_
  refine A4 (A3 (A2 ?_))
  refine A5 rfl ?_
  refine A1 rfl (E8 rfl Tryz.call112 rfl (AM2 _ (by omega)) (A7 (A0 rfl) C6)) ?_
  refine A1 rfl (M5 rfl (A0 rfl)) ?_
  refine A5 rfl ?_
  refine H8 rfl (fun hc => B9 rfl (A0 rfl)) ?_
  refine H8 rfl (fun hc => O8 rfl (A6 rfl hc) B6) ?_
  refine H8 rfl (fun hc => B9 rfl (A6 rfl hc)) ?_
  refine J2 rfl rfl (E1 rfl rfl rfl) (fun hc => B9 rfl (A0 rfl)) ?_
  refine J2 rfl rfl (E1 rfl rfl rfl) (fun hc => B9 rfl (A0 rfl)) ?_
  refine J2 rfl rfl (E1 rfl rfl rfl) (fun hc => B9 rfl (A0 rfl)) ?_
  refine J2 rfl rfl (E1 rfl rfl rfl) (fun hc => P9 rfl (A6 rfl hc) B6 (by first | omega | ((try simp only [C9, A8, szR] at *); omega) | (have hc2 := hc; simp only [P4, beq_iff_eq, bne_iff_ne, A9, E4] at hc2; omega))) ?_
  refine J2 rfl rfl (E1 rfl rfl rfl) (fun hc => J4 rfl E7 E5 (A6 rfl hc) (A6 rfl hc) hy (by first | omega | ((try simp only [C9, A8, szR] at *); omega) | (have hc2 := hc; simp only [P4, beq_iff_eq, bne_iff_ne, A9, E4] at hc2; omega))) ?_
  refine J2 rfl rfl (E1 rfl rfl rfl) (fun hc => N9 rfl (A6 rfl hc) F7 rfl) ?_
  refine J2 rfl rfl (E1 rfl rfl rfl) (fun hc => w_sleq rfl (A6 rfl hc) (A6 rfl hc)) ?_
  refine H8 rfl (fun hc => I1 rfl (A6 rfl hc) (Q0 rfl hc)) ?_
  refine A1 rfl (R5 rfl (A0 rfl) (F9 rfl)) ?_
  refine A4 ?_
  refine C4 (A0 rfl) ?_ ?_
  ·intro h27
   have hfin : areRising l = false := by rw [hinv.2]; cases hg : goodKey x with | false => (rw [o4 hx hg]; simp) | true => (have hb : 0 < i ∧ Op.bytesLess y x = false := (by have := bytesLess_tri y x; simp_all; try grind); rw [o3 hx hy hb.1 hb.2]; simp)
   refine A3 (A2 ?_)
   refine A1 rfl (B7 rfl F8) ?_
   refine A4 ?_
   refine C5 ?_
   exact H9 rfl (B8 rfl (by first | exact congrArg AV.bool hfin.symm | exact congrArg AV.bool (by rw [hinv.2, d8 hge, c3 hge]; rfl)))
  intro h27
  have hg : goodKey x = true ∧ (0 < i → Op.bytesLess y x = true) := by have := bytesLess_tri y x; simp_all
  refine C8 (A2 ?_)
  refine A1 rfl (G7 rfl (A0 rfl) B6 (by first | omega | (simp only [C9, A8, szR] at *; omega))) ?_
  refine A5 rfl ?_
  refine A4 ?_
  refine L9 i (i + 1) ?_ ?_ (K0 ⟨rfl, rfl, rfl, rfl, trivial⟩)
  ·exact ⟨by omega, by rw [hinv.2, s6 hx hg.1, o1 hx hy hg.2]⟩
  omega
 intro h8
 have k8 := of_decide_eq_false h8; try simp only [A9] at k8
 have hge : l.length ≤ i := by omega
 refine G9 ?_
 refine A3 (A2 ?_)
 refine A1 rfl (B7 rfl F8) ?_
 refine A4 ?_
 refine C5 ?_
 exact H9 rfl (B8 rfl (by first | exact congrArg AV.bool hfin.symm | exact congrArg AV.bool (by rw [hinv.2, d8 hge, c3 hge]; rfl)))
theorem AZ8 (l : List TWrite) (hs : sizeL TWrite.size l ≤ 4194304) : FSpec Tryz.prog 216 [AV.list 3 (l.map TWrite.cs)] (strs (wKeys l)) := by
 have hl : l.length ≤ 4194304 := Nat.le_trans O2 hs
 refine E9 Tryz.func216 rfl Tryz.ntmps216 rfl ?_
 refine A3 (A2 ?_)
 refine A1 rfl (B7 rfl (AY5 (sz := 1))) ?_
 refine A4 (A3 (A2 ?_))
 refine U3 rfl rfl rfl rfl E7 E5 ?_
 intro v6
 refine B5 rfl ?_
 refine A4 (A3 (A3 (A2 ?_)))
 refine A5 rfl ?_
 refine A1 rfl (H2 rfl G0 (A0 rfl)) ?_
 refine A1 rfl (B9 rfl B6) ?_
 refine A4 (D1 ?_)
 refine Q9 [(2, _), (7, _), (8, _)] _ (fun (i : Nat) (v : Value) => i ≤ l.length) (fun (i : Nat) (v : Value) => [.arr v 9 1 ((l.take i).map fun w => [AV.str w.Key])]) (fun (i : Nat) (v : Value) => [(3, AV.is v), (9, AV.int i)]) (fun (i : Nat) (v : Value) => l.length - i) (0) (v6) ?_ (S6 (by rfl) ⟨rfl, rfl, rfl, rfl, rfl, trivial⟩) ?_
 ·exact Nat.zero_le _
 intro i v hinv
 refine A3 (A2 ?_)
 refine A1 rfl (K5 rfl (A0 rfl) (A0 rfl)) ?_
 refine A4 (A3 ?_)
 refine C4 (A0 rfl) ?_ ?_
 ·intro h10
  have k10 := of_decide_eq_true h10; try simp only [A9] at k10
  have hlt : i < l.length := by omega
  obtain ⟨x, hx⟩ := get_some hlt
  refine C8 (A3 (D1 (A3 (A2 ?_))))
  refine A1 rfl (J4 rfl G0 H6 (A0 rfl) (A0 rfl) hx (by first | omega | (simp only [C9, A8, szR] at *; omega))) ?_
  refine A1 rfl (L4 rfl (A0 rfl) T9 H6) ?_
  refine G3 rfl rfl rfl rfl Tryz.zeroValue101 rfl ?_
  intro b5
  refine D7 0 rfl rfl rfl (A0 rfl) (A0 rfl) (F0 _) rfl H6 rfl ?_
  refine A4 (A2 ?_)
  refine A5 rfl ?_
  refine A1 rfl (B1 0 rfl H0 rfl E5 (A0 rfl) rfl) ?_
  refine A1 rfl (B0 0 rfl (A0 rfl) rfl F7 rfl) ?_
  refine A1 rfl (L2 rfl E7 E5 Tryz.zeroValue9 rfl rfl rfl rfl (D3 (A0 rfl) (O5 _) I2) rfl rfl) ?_
  refine N3 (by' := 16) 1 rfl rfl rfl rfl E7 Tryz.type9 rfl rfl rfl rfl rfl rfl (A0 rfl) (A0 rfl) rfl (by first | omega | (simp only [C9, A8, szR] at *; omega)) ?_
  intro v17_1
  refine B5 rfl ?_
  refine A4 (A2 ?_)
  refine A1 rfl (G7 rfl (A0 rfl) B6 (by first | omega | (simp only [C9, A8, szR] at *; omega))) ?_
  refine A5 rfl ?_
  refine A4 ?_
  refine P6 i v (i + 1) (v17_1) ?_ ?_ (L5 1 (by exact congrArg (fun z => [Own.arr v17_1 9 1 z]) (Y8 (f := fun w : TWrite => [AV.str w.Key]) hx)) ⟨rfl, rfl, rfl, rfl, rfl, trivial⟩)
  ·omega
  omega
 intro h10
 have k10 := of_decide_eq_false h10; try simp only [A9] at k10
 have hge : l.length ≤ i := by omega
 rw [List.take_of_length_le hge]
 refine G9 ?_
 refine A3 (A2 ?_)
 refine A5 rfl ?_
 refine B5 rfl ?_
 refine A4 ?_
 refine C5 ?_
 refine ret_seal 0 2 rfl rfl ?_
 exact H9 rfl (B8 rfl (by exact congrArg (AV.list 1) (by unfold wKeys; rw [List.map_map]; rfl)))
theorem AT2 (w : TWrite) (h : w.size ≤ 4194304) : FSpec Tryz.prog 217 [AV.agg w.cs] (AV.bool (!isStored w.Val w.Gone)) := by
 unfold TWrite.size at h
 refine E9 Tryz.func217 rfl Tryz.ntmps217 rfl ?_
 refine A3 (A2 ?_)
 refine O3 rfl rfl rfl rfl (A0 rfl) ?_
 intro b1
 refine A1 rfl (B7 rfl F8) ?_
 refine A4 (A3 (A2 ?_))
 refine A1 rfl (B1 1 rfl H0 rfl E5 (A0 rfl) rfl) ?_
 refine A1 rfl (B0 0 rfl (A0 rfl) rfl F7 rfl) ?_
 refine A1 rfl (B1 2 rfl H0 rfl J1 (A0 rfl) rfl) ?_
 refine A1 rfl (B0 0 rfl (A0 rfl) rfl K9 rfl) ?_
 refine A1 rfl (E8 rfl Tryz.call113 rfl (z6 _ _ (by omega)) (A7 (A0 rfl) (A7 (A0 rfl) C6))) ?_
 refine A1 rfl (M5 rfl (A0 rfl)) ?_
 refine B5 rfl ?_
 refine A4 ?_
 refine C5 ?_
 exact H9 rfl (B8 rfl (by first | rfl | (refine congrArg AV.bool ?_; simp_all; done)))
theorem AW5 (l : List TWrite) (hs : sizeL TWrite.size l ≤ 4194304) : FSpec Tryz.prog 185 [AV.list 3 (l.map TWrite.cs)] (AV.bool (goodWrites l)) := by
 have hm : ∀ x ∈ l, x.size ≤ 4194304 := fun x hx => Nat.le_trans (o9 hx) hs
 refine E9 Tryz.func185 rfl Tryz.ntmps185 rfl ?_
 refine A3 (A2 ?_)
 refine A1 rfl (B7 rfl F8) ?_
 refine A4 (A3 (A2 ?_))
 refine A5 rfl ?_
 refine A1 rfl (H2 rfl G0 (A0 rfl)) ?_
 refine A1 rfl (V0 rfl (A0 rfl) B6) ?_
 refine A5 rfl ?_
 refine D0 rfl (fun hc => B9 rfl (A0 rfl)) ?_
 refine D0 rfl (fun hc => E8 rfl Tryz.call216 rfl (AZ8 _ (by assumption)) (A7 (A6 rfl hc) C6)) ?_
 refine D0 rfl (fun hc => E8 rfl Tryz.call119 rfl (s9 _ (by first | assumption | exact Av7 (by assumption))) (A7 (A6 rfl hc) C6)) ?_
 refine A1 rfl (I1 rfl (A0 rfl) (F9 rfl)) ?_
 refine A5 rfl ?_
 refine D0 rfl (fun hc => B9 rfl (A0 rfl)) ?_
 refine D0 rfl (fun hc => E8 rfl Tryz.call141 rfl (e8 _ _ _ (by first | (intros; trivial) | assumption | (intros; first | trivial | (simp_all; done)))) (A7 (A6 rfl hc) (A7 (Ar4 Tryz.call217 (fun w h => AT2 w h)) C6))) ?_
 refine D0 rfl (fun hc => M5 rfl (A6 rfl hc)) ?_
 refine A1 rfl (I1 rfl (A0 rfl) (F9 rfl)) ?_
 refine B5 rfl ?_
 refine A4 ?_
 refine C5 ?_
 exact H9 rfl (B8 rfl (by exact congrArg AV.bool (by unfold goodWrites; simp only [A9])))
theorem Ah1 (l : List TWrite) (hs : sizeL TWrite.size l ≤ 1048576) : FSpec Tryz.prog 163 [AV.list 3 (l.map TWrite.cs)] (AV.bool (l3Writes l)) := by
 refine E9 Tryz.func163 rfl Tryz.ntmps163 rfl ?_
 refine U6 (t := 0) rfl fun hl => ?_
 try simp only [A9] at hl
 refine A3 (A2 ?_)
 refine A1 rfl (B7 rfl F8) ?_
 refine A4 (A3 (A3 (A2 ?_)))
 refine A5 rfl ?_
 refine A1 rfl (H2 rfl G0 (A0 rfl)) ?_
 refine A1 rfl (B9 rfl B6) ?_
 refine A4 (D1 ?_)
 refine J6 [(0, _), (5, _), (6, _)] _ (fun (i : Nat) => i ≤ l.length ∧ (l.all wGood && adj wLess l) = ((l.drop i).all wGood && adj wLess (l.drop (i - 1)))) (fun (i : Nat) => []) (fun (i : Nat) => [(7, AV.int i)]) (fun (i : Nat) => l.length - i) (0) ?_ (K0 ⟨rfl, rfl, rfl, rfl, trivial⟩) ?_
 ·exact ⟨Nat.zero_le _, rfl⟩
 intro i hinv
 refine A3 (A2 ?_)
 refine A1 rfl (K5 rfl (A0 rfl) (A0 rfl)) ?_
 refine A4 (A3 ?_)
 refine C4 (A0 rfl) ?_ ?_
 ·intro h8
  have k8 := of_decide_eq_true h8; try simp only [A9] at k8
  have hlt : i < l.length := by omega
  obtain ⟨x, hx⟩ := get_some hlt
  obtain ⟨y, hy⟩ := get_some (show i - 1 < l.length by omega)
  have hsx : x.size ≤ 1048576 := Nat.le_trans (X6 hx) hs
  unfold TWrite.size at hsx
  refine C8 (A3 (D1 (A3 (A2 ?_))))
  refine A5 rfl ?_
  refine A1 rfl (J4 rfl G0 H6 (A0 rfl) (A0 rfl) hx (by first | omega | (simp only [C9, A8, szR] at *; omega))) ?_
  refine A1 rfl (L4 rfl (A0 rfl) T9 H6) ?_
  refine G3 rfl rfl rfl rfl Tryz.zeroValue101 rfl ?_
  intro b4
  refine B5 rfl ?_
  refine D7 0 rfl rfl rfl (A0 rfl) (A0 rfl) (F0 _) rfl H6 rfl ?_
  refine A4 (A3 ?_)
  refine J5 (by kernel_rfl) (by kernel_rfl) rfl ?_
  refine B2 rfl rfl (B1 0 rfl H0 rfl E5 (A0 rfl) rfl) ?_
  refine B2 rfl rfl (B0 0 rfl (A0 rfl) rfl F7 rfl) ?_
  refine B2 rfl rfl (B1 1 rfl H0 rfl E5 (A0 rfl) rfl) ?_
  refine B2 rfl rfl (B0 0 rfl (A0 rfl) rfl F7 rfl) ?_
  refine B2 rfl rfl (B1 2 rfl H0 rfl J1 (A0 rfl) rfl) ?_
  refine B2 rfl rfl (B0 0 rfl (A0 rfl) rfl K9 rfl) ?_
  refine B2 rfl rfl (E8 rfl Tryz.call165 rfl (AM4 _ _ _ (by omega) (by omega)) (A7 (A0 rfl) (A7 (A0 rfl) (A7 (A0 rfl) C6)))) ?_
  refine B2 rfl rfl (M5 rfl (A0 rfl)) ?_
  refine B2 rfl rfl (B9 rfl (A0 rfl)) ?_
  refine D2 rfl (I4 rfl rfl rfl) (fun hc => B9 rfl (A0 rfl)) ?_
  refine D2 rfl (I4 rfl rfl rfl) (fun hc => O8 rfl (A6 rfl hc) B6) ?_
  refine D2 rfl (I4 rfl rfl rfl) (fun hc => B9 rfl (A6 rfl hc)) ?_
  refine D2 rfl (E1 rfl rfl rfl) (fun hc => B9 rfl (A0 rfl)) ?_
  refine D2 rfl (E1 rfl rfl rfl) (fun hc => B9 rfl (A0 rfl)) ?_
  refine D2 rfl (E1 rfl rfl rfl) (fun hc => P9 rfl (A6 rfl hc) B6 (by first | omega | ((try simp only [C9, A8, szR] at *); omega) | (have hc2 := hc; simp only [P4, beq_iff_eq, bne_iff_ne, A9, E4] at hc2; omega))) ?_
  refine D2 rfl (E1 rfl rfl rfl) (fun hc => J4 rfl G0 H6 (A6 rfl hc) (A6 rfl hc) hy (by first | omega | ((try simp only [C9, A8, szR] at *); omega) | (have hc2 := hc; simp only [P4, beq_iff_eq, bne_iff_ne, A9, E4] at hc2; omega))) ?_
  refine D2 rfl (E1 rfl rfl rfl) (fun hc => V7 rfl H0 rfl E5 (A6 rfl hc) rfl) ?_
  refine D2 rfl (E1 rfl rfl rfl) (fun hc => N9 rfl (A6 rfl hc) F7 rfl) ?_
  refine D2 rfl (E1 rfl rfl rfl) (fun hc => B1 0 rfl H0 rfl E5 (A0 rfl) rfl) ?_
  refine D2 rfl (E1 rfl rfl rfl) (fun hc => B0 0 rfl (A6 rfl hc) rfl F7 rfl) ?_
  refine D2 rfl (E1 rfl rfl rfl) (fun hc => Aj5 rfl (A6 rfl hc) (A6 rfl hc)) ?_
  refine D2 rfl (I4 rfl rfl rfl) (fun hc => I1 rfl (A6 rfl hc) (Q0 rfl hc)) ?_
  refine B2 rfl rfl (R5 rfl (A0 rfl) (F9 rfl)) ?_
  refine P2 ?_
  refine C4 (A0 rfl) ?_ ?_
  ·intro h34
   have hfin : l3Writes l = false := by unfold l3Writes; rw [hinv.2]; cases hg : wGood x with | false => (rw [o4 hx hg]; simp) | true => (have hb : 0 < i ∧ wLess y x = false := (by unfold wGood at hg; unfold wLess; simp_all; try grind); rw [o3 hx hy hb.1 hb.2]; simp)
   refine A3 (A2 ?_)
   refine A1 rfl (B7 rfl F8) ?_
   refine A4 ?_
   refine C5 ?_
   exact H9 rfl (B8 rfl (by first | exact congrArg AV.bool hfin.symm | exact congrArg AV.bool (by unfold l3Writes; rw [hinv.2, d8 hge, c3 hge, A9]; simp)))
  intro h34
  have hg : wGood x = true ∧ (0 < i → wLess y x = true) := by unfold wGood wLess; simp_all
  refine C8 (A2 ?_)
  refine A1 rfl (G7 rfl (A0 rfl) B6 (by first | omega | (simp only [C9, A8, szR] at *; omega))) ?_
  refine A5 rfl ?_
  refine A4 ?_
  refine L9 i (i + 1) ?_ ?_ (U7 1 ⟨rfl, rfl, rfl, rfl, trivial⟩)
  ·exact ⟨by omega, by rw [hinv.2, s6 hx hg.1, o1 hx hy hg.2]⟩
  omega
 intro h8
 have k8 := of_decide_eq_false h8; try simp only [A9] at k8
 have hge : l.length ≤ i := by omega
 refine G9 ?_
 refine A3 (A2 ?_)
 refine A5 rfl ?_
 refine A1 rfl (H2 rfl G0 (A0 rfl)) ?_
 refine A1 rfl (V0 rfl (A0 rfl) B6) ?_
 refine B5 rfl ?_
 refine A4 ?_
 refine C5 ?_
 exact H9 rfl (B8 rfl (by first | exact congrArg AV.bool hfin.symm | exact congrArg AV.bool (by unfold l3Writes; rw [hinv.2, d8 hge, c3 hge, A9]; simp)))
end Go.Proofs.YtkegepoihkhihaaGreat

namespace Go.Proofs.YtkegepoihkhihaaGreat
open Go Go.AV Go.M
attribute [local irreducible] OpW OpA OpS AWP FSpec ESpec RetOk RvDen Le Ev GuardIs
theorem AW6 (w : TWrite) (k : Str) : FSpec Tryz.prog 230 [AV.agg w.cs, AV.str k] (AV.int (wCmp k w)) := by
 refine E9 Tryz.func230 rfl Tryz.ntmps230 rfl ?_
 refine A3 (A2 ?_)
 refine O3 rfl rfl rfl rfl (A0 rfl) ?_
 intro b2
 refine A1 rfl (B7 rfl B6) ?_
 refine A4 (A3 (A2 ?_))
 refine A1 rfl (B1 0 rfl H0 rfl E5 (A0 rfl) rfl) ?_
 refine A1 rfl (B0 0 rfl (A0 rfl) rfl F7 rfl) ?_
 refine A5 rfl ?_
 refine A1 rfl (E8 rfl Tryz.call105 rfl (AF0 _ _) (A7 (A0 rfl) (A7 (A0 rfl) C6))) ?_
 refine B5 rfl ?_
 refine A4 ?_
 refine C5 ?_
 exact H9 rfl (B8 rfl (by first | rfl | (refine congrArg AV.bool ?_; simp_all; done)))
theorem AZ9 (l : List TWrite) (k : Str) (hs : l.length ≤ 4611686018427387903) : FSpec Tryz.prog 219 [AV.list 3 (l.map TWrite.cs), AV.str k] (AV.tup [AV.int (wPos l k), AV.bool (wHas l k)]) := by
 refine E9 Tryz.func219 rfl Tryz.ntmps219 rfl ?_
 refine A3 (A2 ?_)
 refine A1 rfl (B7 rfl B6) ?_
 refine A1 rfl (B7 rfl F8) ?_
 refine A4 (A3 (A2 ?_))
 refine A5 rfl ?_
 refine A5 rfl ?_
 refine A1 rfl (E8 rfl Tryz.call229 rfl (AE8 _ _ _ (by first | (intros; trivial) | assumption | (intros; first | trivial | (simp_all; done))) _ (by omega)) (A7 (A0 rfl) (A7 (A0 rfl) (A7 (AY7 Tryz.call230 (fun w k (_ : True) => AW6 w k)) C6)))) ?_
 refine A1 rfl (I8 rfl (A0 rfl) rfl) ?_
 refine A1 rfl (I8 rfl (A0 rfl) rfl) ?_
 refine B5 rfl ?_
 refine B5 rfl ?_
 refine A4 ?_
 refine C5 ?_
 exact i6 rfl (by decide) (F2 (B8 rfl (by first | rfl | (refine congrArg AV.bool ?_; simp_all; done))) (F2 (B8 rfl (by first | rfl | (refine congrArg AV.bool ?_; simp_all; done))) L7))
end Go.Proofs.YtkegepoihkhihaaGreat

namespace Go.Proofs.YtkegepoihkhihaaGreat
open Go Go.AV Go.M
attribute [local irreducible] OpW OpA OpS AWP FSpec ESpec RetOk RvDen Le Ev GuardIs
theorem f0 {c : TCell} {n : Nat} (h : c.size ≤ n) : c.Key.length ≤ n ∧ c.Vers.length ≤ n ∧ sizeL TVer.size c.Vers ≤ n := by
  unfold TCell.size at h
  have : c.Vers.length ≤ n := Nat.le_trans O2 (show sizeL TVer.size c.Vers ≤ n by omega)
  omega
theorem AF1 (t : Int) : FSpec Tryz.prog 52 [AV.int t] (AV.bool (isTrue t)) := by
 refine E9 Tryz.func52 rfl Tryz.ntmps52 rfl ?_
 refine A3 (A2 ?_)
 refine A1 rfl (B7 rfl F8) ?_
 refine A4 (A3 (A2 ?_))
 refine A5 rfl ?_
 refine A1 rfl (E8 rfl Tryz.call82 rfl (d3 _ _ _) (A7 (A0 rfl) (A7 B6 (A7 B6 C6)))) ?_
 refine B5 rfl ?_
 refine A4 ?_
 refine C5 ?_
 exact H9 rfl (B8 rfl (by first | rfl | (refine congrArg AV.bool ?_; simp_all; done)))
theorem j8 (t : Int) : FSpec Tryz.prog 161 [AV.int t] (AV.bool (within t 1 100000)) := by
 refine E9 Tryz.func161 rfl Tryz.ntmps161 rfl ?_
 refine A3 (A2 ?_)
 refine A1 rfl (B7 rfl F8) ?_
 refine A4 (A3 (A2 ?_))
 refine A5 rfl ?_
 refine A1 rfl (E8 rfl Tryz.call39 rfl (X7 _ _ _) (A7 (A0 rfl) (A7 B6 (A7 B6 C6)))) ?_
 refine B5 rfl ?_
 refine A4 ?_
 refine C5 ?_
 exact H9 rfl (B8 rfl (by first | rfl | (refine congrArg AV.bool ?_; simp_all; done)))
theorem Ap5 (t : Int) : FSpec Tryz.prog 124 [AV.int t] (AV.bool (isTrue t)) := by
 refine E9 Tryz.func124 rfl Tryz.ntmps124 rfl ?_
 refine A3 (A2 ?_)
 refine A1 rfl (B7 rfl F8) ?_
 refine A4 (A3 (A2 ?_))
 refine A5 rfl ?_
 refine A1 rfl (E8 rfl Tryz.call39 rfl (X7 _ _ _) (A7 (A0 rfl) (A7 B6 (A7 B6 C6)))) ?_
 refine B5 rfl ?_
 refine A4 ?_
 refine C5 ?_
 exact H9 rfl (B8 rfl (by first | rfl | (refine congrArg AV.bool ?_; simp_all; done)))
theorem Ap6 (c : TCell) (hs : c.size ≤ 4194304) : FSpec Tryz.prog 118 [AV.agg c.cs] (AV.bool (isCell c)) := by
 have hcl := f0 hs
 refine E9 Tryz.func118 rfl Tryz.ntmps118 rfl ?_
 refine A3 (A2 ?_)
 refine O3 rfl rfl rfl rfl (A0 rfl) ?_
 intro b1
 refine A1 rfl (B7 rfl F8) ?_
 refine A4 (A3 (A3 (A2 ?_)))
 refine A1 rfl (B1 1 rfl F4 rfl K1 (A0 rfl) rfl) ?_
 refine A1 rfl (B0 0 rfl (A0 rfl) rfl N5 rfl) ?_
 refine A1 rfl (H2 rfl G8 (A0 rfl)) ?_
 refine A1 rfl (B9 rfl B6) ?_
 refine A4 (D1 ?_)
 refine J6 [(1, _), (6, _), (7, _)] _ (fun (i : Nat) => i ≤ c.Vers.length ∧ (c.Vers.all verGood && adj verLess c.Vers) = ((c.Vers.drop i).all verGood && adj verLess (c.Vers.drop (i - 1)))) (fun (i : Nat) => []) (fun (i : Nat) => [(8, AV.int i)]) (fun (i : Nat) => c.Vers.length - i) (0) ?_ (K0 ⟨rfl, rfl, rfl, rfl, trivial⟩) ?_
 ·exact ⟨Nat.zero_le _, rfl⟩
 intro i hinv
 refine A3 (A2 ?_)
 refine A1 rfl (K5 rfl (A0 rfl) (A0 rfl)) ?_
 refine A4 (A3 ?_)
 refine C4 (A0 rfl) ?_ ?_
 ·intro h9
  have k9 := of_decide_eq_true h9; try simp only [A9] at k9
  have hlt : i < c.Vers.length := by omega
  obtain ⟨x, hx⟩ := get_some hlt
  obtain ⟨y, hy⟩ := get_some (show i - 1 < c.Vers.length by omega)
  have hsx : x.size ≤ 4194304 := Nat.le_trans (X6 hx) hcl.2.2
  unfold TVer.size at hsx
  refine C8 (A3 (D1 (A3 (A2 ?_))))
  refine A5 rfl ?_
  refine A1 rfl (J4 rfl G8 L1 (A0 rfl) (A0 rfl) hx (by first | omega | (simp only [C9, A8, szR] at *; omega))) ?_
  refine A1 rfl (L4 rfl (A0 rfl) a6 L1) ?_
  refine G3 rfl rfl rfl rfl Tryz.zeroValue127 rfl ?_
  intro b4
  refine B5 rfl ?_
  refine D7 0 rfl rfl rfl (A0 rfl) (A0 rfl) (F0 _) rfl L1 rfl ?_
  refine A4 (A3 ?_)
  refine J5 (by kernel_rfl) (by kernel_rfl) rfl ?_
  refine B2 rfl rfl (B1 0 rfl J8 rfl B4 (A0 rfl) rfl) ?_
  refine B2 rfl rfl (B0 0 rfl (A0 rfl) rfl C2 rfl) ?_
  refine B2 rfl rfl (E8 rfl Tryz.call111 rfl (e9 _) (A7 (A0 rfl) C6)) ?_
  refine B2 rfl rfl (M5 rfl (A0 rfl)) ?_
  refine B2 rfl rfl (B9 rfl (A0 rfl)) ?_
  refine D2 rfl (I4 rfl rfl rfl) (fun hc => B1 1 rfl J8 rfl E5 (A0 rfl) rfl) ?_
  refine D2 rfl (I4 rfl rfl rfl) (fun hc => B0 0 rfl (A6 rfl hc) rfl F7 rfl) ?_
  refine D2 rfl (I4 rfl rfl rfl) (fun hc => B1 2 rfl J8 rfl J1 (A0 rfl) rfl) ?_
  refine D2 rfl (I4 rfl rfl rfl) (fun hc => B0 0 rfl (A6 rfl hc) rfl K9 rfl) ?_
  refine D2 rfl (I4 rfl rfl rfl) (fun hc => E8 rfl Tryz.call113 rfl (z6 _ _ (by omega)) (A7 (A6 rfl hc) (A7 (A6 rfl hc) C6))) ?_
  refine D2 rfl (I4 rfl rfl rfl) (fun hc => M5 rfl (A6 rfl hc)) ?_
  refine B2 rfl rfl (R5 rfl (A0 rfl) (F9 rfl)) ?_
  refine B2 rfl rfl (B9 rfl (A0 rfl)) ?_
  refine D2 rfl (I4 rfl rfl rfl) (fun hc => B9 rfl (A0 rfl)) ?_
  refine D2 rfl (I4 rfl rfl rfl) (fun hc => O8 rfl (A6 rfl hc) B6) ?_
  refine D2 rfl (I4 rfl rfl rfl) (fun hc => B9 rfl (A6 rfl hc)) ?_
  refine D2 rfl (E1 rfl rfl rfl) (fun hc => B1 0 rfl J8 rfl B4 (A0 rfl) rfl) ?_
  refine D2 rfl (E1 rfl rfl rfl) (fun hc => B0 0 rfl (A6 rfl hc) rfl C2 rfl) ?_
  refine D2 rfl (E1 rfl rfl rfl) (fun hc => B1 1 rfl F4 rfl K1 (A0 rfl) rfl) ?_
  refine D2 rfl (E1 rfl rfl rfl) (fun hc => B0 1 rfl (A6 rfl hc) rfl N5 rfl) ?_
  refine D2 rfl (E1 rfl rfl rfl) (fun hc => B9 rfl (A0 rfl)) ?_
  refine D2 rfl (E1 rfl rfl rfl) (fun hc => P9 rfl (A6 rfl hc) B6 (by first | omega | ((try simp only [C9, A8, szR] at *); omega) | (have hc2 := hc; simp only [P4, beq_iff_eq, bne_iff_ne, A9, E4] at hc2; omega))) ?_
  refine D2 rfl (E1 rfl rfl rfl) (fun hc => J4 rfl G8 L1 (A6 rfl hc) (A6 rfl hc) hy (by first | omega | ((try simp only [C9, A8, szR] at *); omega) | (have hc2 := hc; simp only [P4, beq_iff_eq, bne_iff_ne, A9, E4] at hc2; omega))) ?_
  refine D2 rfl (E1 rfl rfl rfl) (fun hc => V7 rfl J8 rfl B4 (A6 rfl hc) rfl) ?_
  refine D2 rfl (E1 rfl rfl rfl) (fun hc => N9 rfl (A6 rfl hc) C2 rfl) ?_
  refine D2 rfl (E1 rfl rfl rfl) (fun hc => V0 rfl (A6 rfl hc) (A6 rfl hc)) ?_
  refine D2 rfl (I4 rfl rfl rfl) (fun hc => I1 rfl (A6 rfl hc) (Q0 rfl hc)) ?_
  refine B2 rfl rfl (R5 rfl (A0 rfl) (F9 rfl)) ?_
  refine P2 ?_
  refine C4 (A0 rfl) ?_ ?_
  ·intro h40
   have hfin : isCell c = false := by unfold isCell; rw [hinv.2]; cases hg : verGood x with | false => (rw [o4 hx hg]; simp) | true => (have hb : 0 < i ∧ verLess y x = false := (by unfold verGood at hg; unfold verLess; simp_all; try grind); rw [o3 hx hy hb.1 hb.2]; simp)
   refine A3 (A2 ?_)
   refine A1 rfl (B7 rfl F8) ?_
   refine A4 ?_
   refine C5 ?_
   exact H9 rfl (B8 rfl (by first | exact congrArg AV.bool hfin.symm | exact congrArg AV.bool (by unfold isCell; rw [hinv.2, d8 hge, c3 hge]; simp)))
  intro h40
  have hg : verGood x = true ∧ (0 < i → verLess y x = true) := by unfold verGood verLess; simp_all
  refine C8 (A2 ?_)
  refine A1 rfl (G7 rfl (A0 rfl) B6 (by first | omega | (simp only [C9, A8, szR] at *; omega))) ?_
  refine A5 rfl ?_
  refine A4 ?_
  refine L9 i (i + 1) ?_ ?_ (U7 1 ⟨rfl, rfl, rfl, rfl, trivial⟩)
  ·exact ⟨by omega, by rw [hinv.2, s6 hx hg.1, o1 hx hy hg.2]⟩
  omega
 intro h9
 have k9 := of_decide_eq_false h9; try simp only [A9] at k9
 have hge : c.Vers.length ≤ i := by omega
 refine G9 ?_
 refine A3 (A2 ?_)
 refine A1 rfl (B1 1 rfl F4 rfl K1 (A0 rfl) rfl) ?_
 refine A1 rfl (B0 0 rfl (A0 rfl) rfl N5 rfl) ?_
 refine A1 rfl (H2 rfl G8 (A0 rfl)) ?_
 refine A1 rfl (E8 rfl Tryz.call82 rfl (d3 _ _ _) (A7 (A0 rfl) (A7 B6 (A7 B6 C6)))) ?_
 refine B5 rfl ?_
 refine A4 ?_
 refine C5 ?_
 exact H9 rfl (B8 rfl (by first | exact congrArg AV.bool hfin.symm | exact congrArg AV.bool (by unfold isCell; rw [hinv.2, d8 hge, c3 hge]; simp)))
theorem Ap7 (c : TCell) (hs : c.size ≤ 4194304) : FSpec Tryz.prog 176 [AV.agg c.cs] (AV.bool (l3Cell c)) := by
 have hcl := f0 hs
 refine E9 Tryz.func176 rfl Tryz.ntmps176 rfl ?_
 refine A3 (A2 ?_)
 refine O3 rfl rfl rfl rfl (A0 rfl) ?_
 intro b1
 refine A1 rfl (B7 rfl F8) ?_
 refine A4 (A3 (A3 (A2 ?_)))
 refine A1 rfl (B1 1 rfl F4 rfl K1 (A0 rfl) rfl) ?_
 refine A1 rfl (B0 0 rfl (A0 rfl) rfl N5 rfl) ?_
 refine A1 rfl (H2 rfl G8 (A0 rfl)) ?_
 refine A1 rfl (B9 rfl B6) ?_
 refine A4 (D1 ?_)
 refine J6 [(1, _), (6, _), (7, _)] _ (fun (i : Nat) => i ≤ c.Vers.length ∧ (c.Vers.all (verGoodS c.Key) && adj verLess c.Vers) = ((c.Vers.drop i).all (verGoodS c.Key) && adj verLess (c.Vers.drop (i - 1)))) (fun (i : Nat) => []) (fun (i : Nat) => [(8, AV.int i)]) (fun (i : Nat) => c.Vers.length - i) (0) ?_ (K0 ⟨rfl, rfl, rfl, rfl, trivial⟩) ?_
 ·exact ⟨Nat.zero_le _, rfl⟩
 intro i hinv
 refine A3 (A2 ?_)
 refine A1 rfl (K5 rfl (A0 rfl) (A0 rfl)) ?_
 refine A4 (A3 ?_)
 refine C4 (A0 rfl) ?_ ?_
 ·intro h9
  have k9 := of_decide_eq_true h9; try simp only [A9] at k9
  have hlt : i < c.Vers.length := by omega
  obtain ⟨x, hx⟩ := get_some hlt
  obtain ⟨y, hy⟩ := get_some (show i - 1 < c.Vers.length by omega)
  have hsx : x.size ≤ 4194304 := Nat.le_trans (X6 hx) hcl.2.2
  unfold TVer.size at hsx
  refine C8 (A3 (D1 (A3 (A2 ?_))))
  refine A5 rfl ?_
  refine A1 rfl (J4 rfl G8 L1 (A0 rfl) (A0 rfl) hx (by first | omega | (simp only [C9, A8, szR] at *; omega))) ?_
  refine A1 rfl (L4 rfl (A0 rfl) a6 L1) ?_
  refine G3 rfl rfl rfl rfl Tryz.zeroValue127 rfl ?_
  intro b4
  refine B5 rfl ?_
  refine D7 0 rfl rfl rfl (A0 rfl) (A0 rfl) (F0 _) rfl L1 rfl ?_
  refine A4 (A3 ?_)
  refine J5 (by kernel_rfl) (by kernel_rfl) rfl ?_
  refine B2 rfl rfl (B1 0 rfl J8 rfl B4 (A0 rfl) rfl) ?_
  refine B2 rfl rfl (B0 0 rfl (A0 rfl) rfl C2 rfl) ?_
  refine B2 rfl rfl (E8 rfl Tryz.call161 rfl (j8 _) (A7 (A0 rfl) C6)) ?_
  refine B2 rfl rfl (M5 rfl (A0 rfl)) ?_
  refine B2 rfl rfl (B9 rfl (A0 rfl)) ?_
  refine D2 rfl (I4 rfl rfl rfl) (fun hc => B1 0 rfl F4 rfl E5 (A0 rfl) rfl) ?_
  refine D2 rfl (I4 rfl rfl rfl) (fun hc => B0 1 rfl (A6 rfl hc) rfl F7 rfl) ?_
  refine D2 rfl (I4 rfl rfl rfl) (fun hc => B1 1 rfl J8 rfl E5 (A0 rfl) rfl) ?_
  refine D2 rfl (I4 rfl rfl rfl) (fun hc => B0 0 rfl (A6 rfl hc) rfl F7 rfl) ?_
  refine D2 rfl (I4 rfl rfl rfl) (fun hc => B1 2 rfl J8 rfl J1 (A0 rfl) rfl) ?_
  refine D2 rfl (I4 rfl rfl rfl) (fun hc => B0 0 rfl (A6 rfl hc) rfl K9 rfl) ?_
  refine D2 rfl (I4 rfl rfl rfl) (fun hc => E8 rfl Tryz.call165 rfl (AM4 _ _ _ (by omega) (by omega)) (A7 (A6 rfl hc) (A7 (A6 rfl hc) (A7 (A6 rfl hc) C6)))) ?_
  refine D2 rfl (I4 rfl rfl rfl) (fun hc => M5 rfl (A6 rfl hc)) ?_
  refine B2 rfl rfl (R5 rfl (A0 rfl) (F9 rfl)) ?_
  refine B2 rfl rfl (B9 rfl (A0 rfl)) ?_
  refine D2 rfl (I4 rfl rfl rfl) (fun hc => B9 rfl (A0 rfl)) ?_
  refine D2 rfl (I4 rfl rfl rfl) (fun hc => O8 rfl (A6 rfl hc) B6) ?_
  refine D2 rfl (I4 rfl rfl rfl) (fun hc => B9 rfl (A6 rfl hc)) ?_
  refine D2 rfl (E1 rfl rfl rfl) (fun hc => B1 1 rfl F4 rfl K1 (A0 rfl) rfl) ?_
  refine D2 rfl (E1 rfl rfl rfl) (fun hc => B0 1 rfl (A6 rfl hc) rfl N5 rfl) ?_
  refine D2 rfl (E1 rfl rfl rfl) (fun hc => B9 rfl (A0 rfl)) ?_
  refine D2 rfl (E1 rfl rfl rfl) (fun hc => P9 rfl (A6 rfl hc) B6 (by first | omega | ((try simp only [C9, A8, szR] at *); omega) | (have hc2 := hc; simp only [P4, beq_iff_eq, bne_iff_ne, A9, E4] at hc2; omega))) ?_
  refine D2 rfl (E1 rfl rfl rfl) (fun hc => J4 rfl G8 L1 (A6 rfl hc) (A6 rfl hc) hy (by first | omega | ((try simp only [C9, A8, szR] at *); omega) | (have hc2 := hc; simp only [P4, beq_iff_eq, bne_iff_ne, A9, E4] at hc2; omega))) ?_
  refine D2 rfl (E1 rfl rfl rfl) (fun hc => V7 rfl J8 rfl B4 (A6 rfl hc) rfl) ?_
  refine D2 rfl (E1 rfl rfl rfl) (fun hc => N9 rfl (A6 rfl hc) C2 rfl) ?_
  refine D2 rfl (E1 rfl rfl rfl) (fun hc => B1 0 rfl J8 rfl B4 (A0 rfl) rfl) ?_
  refine D2 rfl (E1 rfl rfl rfl) (fun hc => B0 0 rfl (A6 rfl hc) rfl C2 rfl) ?_
  refine D2 rfl (E1 rfl rfl rfl) (fun hc => c6 rfl (A6 rfl hc) (A6 rfl hc)) ?_
  refine D2 rfl (I4 rfl rfl rfl) (fun hc => I1 rfl (A6 rfl hc) (Q0 rfl hc)) ?_
  refine B2 rfl rfl (R5 rfl (A0 rfl) (F9 rfl)) ?_
  refine P2 ?_
  refine C4 (A0 rfl) ?_ ?_
  ·intro h42
   have hfin : l3Cell c = false := by unfold l3Cell; rw [hinv.2]; cases hg : verGoodS c.Key x with | false => (rw [o4 hx hg]; simp) | true => (have hb : 0 < i ∧ verLess y x = false := (by unfold verGoodS at hg; unfold verLess; simp_all; try grind); rw [o3 hx hy hb.1 hb.2]; simp)
   refine A3 (A2 ?_)
   refine A1 rfl (B7 rfl F8) ?_
   refine A4 ?_
   refine C5 ?_
   exact H9 rfl (B8 rfl (by first | exact congrArg AV.bool hfin.symm | exact congrArg AV.bool (by unfold l3Cell; rw [hinv.2, d8 hge, c3 hge]; simp)))
  intro h42
  have hg : verGoodS c.Key x = true ∧ (0 < i → verLess y x = true) := by unfold verGoodS verLess; simp_all
  refine C8 (A2 ?_)
  refine A1 rfl (G7 rfl (A0 rfl) B6 (by first | omega | (simp only [C9, A8, szR] at *; omega))) ?_
  refine A5 rfl ?_
  refine A4 ?_
  refine L9 i (i + 1) ?_ ?_ (U7 1 ⟨rfl, rfl, rfl, rfl, trivial⟩)
  ·exact ⟨by omega, by rw [hinv.2, s6 hx hg.1, o1 hx hy hg.2]⟩
  omega
 intro h9
 have k9 := of_decide_eq_false h9; try simp only [A9] at k9
 have hge : c.Vers.length ≤ i := by omega
 refine G9 ?_
 refine A3 (A2 ?_)
 refine A1 rfl (B1 0 rfl F4 rfl E5 (A0 rfl) rfl) ?_
 refine A1 rfl (B0 0 rfl (A0 rfl) rfl F7 rfl) ?_
 refine A1 rfl (E8 rfl Tryz.call198 rfl (AI3 _ (by omega)) (A7 (A0 rfl) C6)) ?_
 refine A5 rfl ?_
 refine D0 rfl (fun hc => B1 1 rfl F4 rfl K1 (A0 rfl) rfl) ?_
 refine D0 rfl (fun hc => B0 0 rfl (A6 rfl hc) rfl N5 rfl) ?_
 refine D0 rfl (fun hc => H2 rfl G8 (A6 rfl hc)) ?_
 refine D0 rfl (fun hc => E8 rfl Tryz.call39 rfl (X7 _ _ _) (A7 (A6 rfl hc) (A7 B6 (A7 B6 C6)))) ?_
 refine A1 rfl (I1 rfl (A0 rfl) (F9 rfl)) ?_
 refine B5 rfl ?_
 refine A4 ?_
 refine C5 ?_
 exact H9 rfl (B8 rfl (by first | exact congrArg AV.bool hfin.symm | exact congrArg AV.bool (by unfold l3Cell; rw [hinv.2, d8 hge, c3 hge]; simp)))
theorem t1 (l : List TCell) (hs : sizeL TCell.size l ≤ 4194304) : FSpec Tryz.prog 77 [AV.list 2 (l.map TCell.cs)] (AV.bool (goodCells l)) := by
 have hl : l.length ≤ 4194304 := Nat.le_trans O2 hs
 have hks : ∀ k ∈ cKeys l, k.length ≤ 4611686018427387904 := fun k hk => by
  obtain ⟨w, hw, rfl⟩ := List.mem_map.1 hk
  have := f0 (Nat.le_trans (o9 hw) hs)
  omega
 refine E9 Tryz.func77 rfl Tryz.ntmps77 rfl ?_
 refine A3 (A2 ?_)
 refine A1 rfl (B7 rfl F8) ?_
 refine A4 (A3 (A2 ?_))
 refine U3 rfl rfl rfl rfl E7 E5 ?_
 intro v6
 refine B5 rfl ?_
 refine A4 (A3 (A3 (A2 ?_)))
 refine A5 rfl ?_
 refine A1 rfl (H2 rfl C7 (A0 rfl)) ?_
 refine A1 rfl (B9 rfl B6) ?_
 refine A4 (D1 ?_)
 refine Q9 [(0, _), (7, _), (8, _)] _ (fun (i : Nat) (v : Value) => i ≤ l.length ∧ l.all isCell = (l.drop i).all isCell) (fun (i : Nat) (v : Value) => [.arr v 9 1 ((l.take i).map fun w => [AV.str w.Key])]) (fun (i : Nat) (v : Value) => [(3, AV.is v), (9, AV.int i)]) (fun (i : Nat) (v : Value) => l.length - i) (0) (v6) ?_ (S6 (by rfl) ⟨rfl, rfl, rfl, rfl, rfl, trivial⟩) ?_
 ·exact ⟨Nat.zero_le _, rfl⟩
 intro i v hinv
 refine A3 (A2 ?_)
 refine A1 rfl (K5 rfl (A0 rfl) (A0 rfl)) ?_
 refine A4 (A3 ?_)
 refine C4 (A0 rfl) ?_ ?_
 ·intro h10
  have k10 := of_decide_eq_true h10; try simp only [A9] at k10
  have hlt : i < l.length := by omega
  obtain ⟨x, hx⟩ := get_some hlt
  have hsx : x.size ≤ 4194304 := Nat.le_trans (X6 hx) hs
  refine C8 (A3 (D1 (A3 (A2 ?_))))
  refine A1 rfl (J4 rfl C7 E2 (A0 rfl) (A0 rfl) hx (by first | omega | (simp only [C9, A8, szR] at *; omega))) ?_
  refine A1 rfl (L4 rfl (A0 rfl) S7 E2) ?_
  refine G3 rfl rfl rfl rfl Tryz.zeroValue125 rfl ?_
  intro b5
  refine D7 0 rfl rfl rfl (A0 rfl) (A0 rfl) (F0 _) rfl E2 rfl ?_
  refine A4 (A3 (A3 (A2 ?_)))
  refine A1 rfl (G5 0 rfl (A0 rfl) rfl S7 E2 rfl) ?_
  refine A1 rfl (E8 rfl Tryz.call118 rfl (Ap6 _ (by first | assumption | omega)) (A7 (A0 rfl) C6)) ?_
  refine A1 rfl (M5 rfl (A0 rfl)) ?_
  refine A4 ?_
  refine C4 (A0 rfl) ?_ ?_
  ·intro h15
   refine A3 (A2 ?_)
   refine A1 rfl (B7 rfl F8) ?_
   refine A4 ?_
   refine C5 ?_
   exact H9 rfl (B8 rfl (by first | exact congrArg AV.bool (by unfold goodCells; rw [hinv.2, o4 hx (by simpa using h15)]; rfl) | exact congrArg AV.bool (by unfold goodCells; rw [hinv.2, d8 hge, A9]; simp)))
  intro h15
  refine C8 (A2 ?_)
  refine A5 rfl ?_
  refine A1 rfl (B1 0 rfl F4 rfl E5 (A0 rfl) rfl) ?_
  refine A1 rfl (B0 0 rfl (A0 rfl) rfl F7 rfl) ?_
  refine A1 rfl (L2 rfl E7 E5 Tryz.zeroValue9 rfl rfl rfl rfl (D3 (A0 rfl) (O5 _) I2) rfl rfl) ?_
  refine N3 (by' := 16) 1 rfl rfl rfl rfl E7 Tryz.type9 rfl rfl rfl rfl rfl rfl (A0 rfl) (A0 rfl) rfl (by first | omega | (simp only [C9, A8, szR] at *; omega)) ?_
  intro v20_1
  refine B5 rfl ?_
  refine A4 (A2 ?_)
  refine A1 rfl (G7 rfl (A0 rfl) B6 (by first | omega | (simp only [C9, A8, szR] at *; omega))) ?_
  refine A5 rfl ?_
  refine A4 ?_
  refine P6 i v (i + 1) (v20_1) ?_ ?_ (L5 1 (by exact congrArg (fun z => [Own.arr v20_1 9 1 z]) (Y8 (f := fun w : TCell => [AV.str w.Key]) hx)) ⟨rfl, rfl, rfl, rfl, rfl, trivial⟩)
  ·exact ⟨by omega, by rw [hinv.2, s6 hx (by simpa using h15)]⟩
  omega
 intro h10
 have k10 := of_decide_eq_false h10; try simp only [A9] at k10
 have hge : l.length ≤ i := by omega
 rw [List.take_of_length_le hge, show (l.map fun w => [AV.str w.Key]) = (cKeys l).map (fun k => [AV.str k]) from by unfold cKeys; rw [List.map_map]; rfl]
 refine G9 ?_
 refine A3 (A2 ?_)
 refine A5 rfl ?_
 refine A1 rfl (H2 rfl C7 (A0 rfl)) ?_
 refine A1 rfl (V0 rfl (A0 rfl) B6) ?_
 refine A5 rfl ?_
 refine D0 rfl (fun hc => B9 rfl (A0 rfl)) ?_
 refine D0 rfl (fun hc => f7 rfl Tryz.call119 rfl (s9 (cKeys l) hks) (D5 _) (P3 (Ar5 0 (A6 rfl hc) rfl) X3)) ?_
 refine A1 rfl (I1 rfl (A0 rfl) (F9 rfl)) ?_
 refine B5 rfl ?_
 refine A4 ?_
 refine C5 ?_
 exact H9 rfl (B8 rfl (by first | exact congrArg AV.bool (by unfold goodCells; rw [hinv.2, o4 hx (by simpa using h15)]; rfl) | exact congrArg AV.bool (by unfold goodCells; rw [hinv.2, d8 hge, A9]; simp)))
theorem AQ1 (l : List TCell) (hs : sizeL TCell.size l ≤ 4194304) : FSpec Tryz.prog 125 [AV.list 2 (l.map TCell.cs)] (AV.bool (l3Good l)) := by
 refine E9 Tryz.func125 rfl Tryz.ntmps125 rfl ?_
 refine U6 (t := 0) rfl fun hl => ?_
 try simp only [A9] at hl
 refine A3 (A2 ?_)
 refine A1 rfl (B7 rfl F8) ?_
 refine A4 (A3 (A3 (A2 ?_)))
 refine A5 rfl ?_
 refine A1 rfl (H2 rfl C7 (A0 rfl)) ?_
 refine A1 rfl (B9 rfl B6) ?_
 refine A4 (D1 ?_)
 refine J6 [(0, _), (5, _), (6, _)] _ (fun (i : Nat) => i ≤ l.length ∧ (l.all l3Cell && adj cLess l) = ((l.drop i).all l3Cell && adj cLess (l.drop (i - 1)))) (fun (i : Nat) => []) (fun (i : Nat) => [(7, AV.int i)]) (fun (i : Nat) => l.length - i) (0) ?_ (K0 ⟨rfl, rfl, rfl, rfl, trivial⟩) ?_
 ·exact ⟨Nat.zero_le _, rfl⟩
 intro i hinv
 refine A3 (A2 ?_)
 refine A1 rfl (K5 rfl (A0 rfl) (A0 rfl)) ?_
 refine A4 (A3 ?_)
 refine C4 (A0 rfl) ?_ ?_
 ·intro h8
  have k8 := of_decide_eq_true h8; try simp only [A9] at k8
  have hlt : i < l.length := by omega
  obtain ⟨x, hx⟩ := get_some hlt
  obtain ⟨y, hy⟩ := get_some (show i - 1 < l.length by omega)
  have hsx : x.size ≤ 4194304 := Nat.le_trans (X6 hx) hs
  refine C8 (A3 (D1 (A3 (A2 ?_))))
  refine A5 rfl ?_
  refine A1 rfl (J4 rfl C7 E2 (A0 rfl) (A0 rfl) hx (by first | omega | (simp only [C9, A8, szR] at *; omega))) ?_
  refine A1 rfl (L4 rfl (A0 rfl) S7 E2) ?_
  refine G3 rfl rfl rfl rfl Tryz.zeroValue125 rfl ?_
  intro b4
  refine B5 rfl ?_
  refine D7 0 rfl rfl rfl (A0 rfl) (A0 rfl) (F0 _) rfl E2 rfl ?_
  refine A4 (A3 ?_)
  refine J5 (by kernel_rfl) (by kernel_rfl) rfl ?_
  refine B2 rfl rfl (G5 0 rfl (A0 rfl) rfl S7 E2 rfl) ?_
  refine B2 rfl rfl (E8 rfl Tryz.call176 rfl (Ap7 _ (by first | assumption | omega)) (A7 (A0 rfl) C6)) ?_
  refine B2 rfl rfl (M5 rfl (A0 rfl)) ?_
  refine B2 rfl rfl (B9 rfl (A0 rfl)) ?_
  refine D2 rfl (I4 rfl rfl rfl) (fun hc => B9 rfl (A0 rfl)) ?_
  refine D2 rfl (I4 rfl rfl rfl) (fun hc => O8 rfl (A6 rfl hc) B6) ?_
  refine D2 rfl (I4 rfl rfl rfl) (fun hc => B9 rfl (A6 rfl hc)) ?_
  refine D2 rfl (E1 rfl rfl rfl) (fun hc => B9 rfl (A0 rfl)) ?_
  refine D2 rfl (E1 rfl rfl rfl) (fun hc => B9 rfl (A0 rfl)) ?_
  refine D2 rfl (E1 rfl rfl rfl) (fun hc => P9 rfl (A6 rfl hc) B6 (by first | omega | ((try simp only [C9, A8, szR] at *); omega) | (have hc2 := hc; simp only [P4, beq_iff_eq, bne_iff_ne, A9, E4] at hc2; omega))) ?_
  refine D2 rfl (E1 rfl rfl rfl) (fun hc => J4 rfl C7 E2 (A6 rfl hc) (A6 rfl hc) hy (by first | omega | ((try simp only [C9, A8, szR] at *); omega) | (have hc2 := hc; simp only [P4, beq_iff_eq, bne_iff_ne, A9, E4] at hc2; omega))) ?_
  refine D2 rfl (E1 rfl rfl rfl) (fun hc => V7 rfl F4 rfl E5 (A6 rfl hc) rfl) ?_
  refine D2 rfl (E1 rfl rfl rfl) (fun hc => N9 rfl (A6 rfl hc) F7 rfl) ?_
  refine D2 rfl (E1 rfl rfl rfl) (fun hc => B1 0 rfl F4 rfl E5 (A0 rfl) rfl) ?_
  refine D2 rfl (E1 rfl rfl rfl) (fun hc => B0 0 rfl (A6 rfl hc) rfl F7 rfl) ?_
  refine D2 rfl (E1 rfl rfl rfl) (fun hc => Aj5 rfl (A6 rfl hc) (A6 rfl hc)) ?_
  refine D2 rfl (I4 rfl rfl rfl) (fun hc => I1 rfl (A6 rfl hc) (Q0 rfl hc)) ?_
  refine B2 rfl rfl (R5 rfl (A0 rfl) (F9 rfl)) ?_
  refine P2 ?_
  refine C4 (A0 rfl) ?_ ?_
  ·intro h29
   have hfin : l3Good l = false := by unfold l3Good; rw [hinv.2]; cases hg : l3Cell x with | false => (rw [o4 hx hg]; simp) | true => (have hb : 0 < i ∧ cLess y x = false := (by unfold cLess; simp_all; try grind); rw [o3 hx hy hb.1 hb.2]; simp)
   refine A3 (A2 ?_)
   refine A1 rfl (B7 rfl F8) ?_
   refine A4 ?_
   refine C5 ?_
   exact H9 rfl (B8 rfl (by first | exact congrArg AV.bool hfin.symm | exact congrArg AV.bool (by unfold l3Good; rw [hinv.2, d8 hge, c3 hge, A9]; simp)))
  intro h29
  have hg : l3Cell x = true ∧ (0 < i → cLess y x = true) := by unfold cLess; simp_all
  refine C8 (A2 ?_)
  refine A1 rfl (G7 rfl (A0 rfl) B6 (by first | omega | (simp only [C9, A8, szR] at *; omega))) ?_
  refine A5 rfl ?_
  refine A4 ?_
  refine L9 i (i + 1) ?_ ?_ (U7 1 ⟨rfl, rfl, rfl, rfl, trivial⟩)
  ·exact ⟨by omega, by rw [hinv.2, s6 hx hg.1, o1 hx hy hg.2]⟩
  omega
 intro h8
 have k8 := of_decide_eq_false h8; try simp only [A9] at k8
 have hge : l.length ≤ i := by omega
 refine G9 ?_
 refine A3 (A2 ?_)
 refine A5 rfl ?_
 refine A1 rfl (H2 rfl C7 (A0 rfl)) ?_
 refine A1 rfl (V0 rfl (A0 rfl) B6) ?_
 refine B5 rfl ?_
 refine A4 ?_
 refine C5 ?_
 exact H9 rfl (B8 rfl (by first | exact congrArg AV.bool hfin.symm | exact congrArg AV.bool (by unfold l3Good; rw [hinv.2, d8 hge, c3 hge, A9]; simp)))
theorem Aa0 (c : TCell) (k : Str) : FSpec Tryz.prog 173 [AV.agg c.cs, AV.str k] (AV.int (cCmp k c)) := by
 refine E9 Tryz.func173 rfl Tryz.ntmps173 rfl ?_
 refine A3 (A2 ?_)
 refine O3 rfl rfl rfl rfl (A0 rfl) ?_
 intro b2
 refine A1 rfl (B7 rfl B6) ?_
 refine A4 (A3 (A2 ?_))
 refine A1 rfl (B1 0 rfl F4 rfl E5 (A0 rfl) rfl) ?_
 refine A1 rfl (B0 0 rfl (A0 rfl) rfl F7 rfl) ?_
 refine A5 rfl ?_
 refine A1 rfl (E8 rfl Tryz.call105 rfl (AF0 _ _) (A7 (A0 rfl) (A7 (A0 rfl) C6))) ?_
 refine B5 rfl ?_
 refine A4 ?_
 refine C5 ?_
 exact H9 rfl (B8 rfl (by first | rfl | (refine congrArg AV.bool ?_; simp_all; done)))
theorem z7 (l : List TCell) (k : Str) (hs : l.length ≤ 4611686018427387903) : FSpec Tryz.prog 122 [AV.list 2 (l.map TCell.cs), AV.str k] (AV.tup [AV.int (cPos l k), AV.bool (cHas l k)]) := by
 refine E9 Tryz.func122 rfl Tryz.ntmps122 rfl ?_
 refine A3 (A2 ?_)
 refine A1 rfl (B7 rfl B6) ?_
 refine A1 rfl (B7 rfl F8) ?_
 refine A4 (A3 (A2 ?_))
 refine A5 rfl ?_
 refine A5 rfl ?_
 refine A1 rfl (E8 rfl Tryz.call172 rfl (AG5 _ _ _ (by first | (intros; trivial) | assumption | (intros; first | trivial | (simp_all; done))) _ (by omega)) (A7 (A0 rfl) (A7 (A0 rfl) (A7 (AY7 Tryz.call173 (fun c k (_ : True) => Aa0 c k)) C6)))) ?_
 refine A1 rfl (I8 rfl (A0 rfl) rfl) ?_
 refine A1 rfl (I8 rfl (A0 rfl) rfl) ?_
 refine B5 rfl ?_
 refine B5 rfl ?_
 refine A4 ?_
 refine C5 ?_
 exact i6 rfl (by decide) (F2 (B8 rfl (by first | rfl | (refine congrArg AV.bool ?_; simp_all; done))) (F2 (B8 rfl (by first | rfl | (refine congrArg AV.bool ?_; simp_all; done))) L7))
theorem Ae2 {c : TCell} (h : 1 ≤ c.Vers.length) : ∃ v, c.Vers[c.Vers.length - 1]? = some v ∧ lastV c = v.Time := by
  obtain ⟨v, hv⟩ := get_some (show c.Vers.length - 1 < c.Vers.length by omega)
  refine ⟨v, hv, ?_⟩
  unfold lastV; rw [List.getLast?_eq_getElem?, hv]
theorem z8 (l : List TCell) (k : Str) (ho : CellsOk l) (hs : sizeL TCell.size l ≤ 4194304) : FSpec Tryz.prog 92 [AV.list 2 (l.map TCell.cs), AV.str k] (AV.int (lastTime l k)) := by
 have hl : l.length ≤ 4194304 := Nat.le_trans O2 hs
 refine E9 Tryz.func92 rfl Tryz.ntmps92 rfl ?_
 refine A3 (A2 ?_)
 refine A1 rfl (B7 rfl B6) ?_
 refine A4 (A3 (A2 ?_))
 refine A5 rfl ?_
 refine A5 rfl ?_
 refine A1 rfl (E8 rfl Tryz.call122 rfl (z7 _ _ (by first | assumption | omega)) (A7 (A0 rfl) (A7 (A0 rfl) C6))) ?_
 refine A5 rfl ?_
 refine A1 rfl (I8 rfl (A0 rfl) rfl) ?_
 refine A1 rfl (I8 rfl (A0 rfl) rfl) ?_
 refine B5 rfl ?_
 refine B5 rfl ?_
 refine A4 (A3 (A3 (A2 ?_)))
 refine A5 rfl ?_
 refine A1 rfl (M5 rfl (A0 rfl)) ?_
 refine A4 ?_
 refine C4 (A0 rfl) ?_ ?_
 ·intro h14
  have hn : cHas l k = false := by simpa using h14
  have he : lastTime l k = 0 := by unfold lastTime; rw [AS7 ho.1, hn]; rfl
  rw [he]
  refine A3 (A2 ?_)
  refine A1 rfl (B7 rfl B6) ?_
  refine A4 ?_
  refine C5 ?_
  exact H9 rfl (B8 rfl (by first | rfl | (refine congrArg AV.bool ?_; simp_all; done)))
 intro h14
 have hn : cHas l k = true := by simpa using h14
 obtain ⟨c, hc, hck⟩ := s7.1 hn
 obtain ⟨v, hv, hlv⟩ := Ae2 (ho.2 c (G2 hc))
 have hcl := f0 (Nat.le_trans (X6 hc) hs)
 have hc1 := ho.2 c (G2 hc)
 have he : lastTime l k = v.Time := by unfold lastTime; rw [AS7 ho.1, hn, if_pos rfl, hc]; exact hlv
 rw [he]
 refine C8 (A3 ?_)
 refine J5 (by kernel_rfl) (by kernel_rfl) rfl ?_
 refine B2 rfl rfl (B9 rfl (A0 rfl)) ?_
 refine B2 rfl rfl (B9 rfl (A0 rfl)) ?_
 refine B2 rfl rfl (J4 rfl C7 E2 (A0 rfl) (A0 rfl) hc (by first | omega | (simp only [C9, A8, szR] at *; omega))) ?_
 refine B2 rfl rfl (V7 rfl F4 rfl K1 (A0 rfl) rfl) ?_
 refine B2 rfl rfl (N9 rfl (A0 rfl) N5 rfl) ?_
 refine B2 rfl rfl (B9 rfl (A0 rfl)) ?_
 refine B2 rfl rfl (B9 rfl (A0 rfl)) ?_
 refine B2 rfl rfl (J4 rfl C7 E2 (A0 rfl) (A0 rfl) hc (by first | omega | (simp only [C9, A8, szR] at *; omega))) ?_
 refine B2 rfl rfl (V7 rfl F4 rfl K1 (A0 rfl) rfl) ?_
 refine B2 rfl rfl (N9 rfl (A0 rfl) N5 rfl) ?_
 refine B2 rfl rfl (H2 rfl G8 (A0 rfl)) ?_
 refine B2 rfl rfl (P9 rfl (A0 rfl) B6 (by first | omega | (simp only [C9, A8, szR] at *; omega))) ?_
 refine B2 rfl rfl (J4 rfl G8 L1 (A0 rfl) (A0 rfl) hv (by first | omega | (simp only [C9, A8, szR] at *; omega))) ?_
 refine B2 rfl rfl (V7 rfl J8 rfl B4 (A0 rfl) rfl) ?_
 refine B2 rfl rfl (N9 rfl (A0 rfl) C2 rfl) ?_
 refine B2 rfl rfl (B7 rfl (A0 rfl)) ?_
 refine P2 ?_
 refine C5 ?_
 exact H9 rfl (B8 rfl (by first | rfl | (refine congrArg AV.bool ?_; simp_all; done)))
theorem Ae3 (l : List TCell) (k : Str) : FSpec Tryz.prog 180 [AV.list 2 (l.map TCell.cs), AV.str k] (AV.int (atC l k)) := by
 refine E9 Tryz.func180 rfl Tryz.ntmps180 rfl ?_
 refine U6 (t := 0) rfl fun hl => ?_
 try simp only [A9] at hl
 refine A3 (A2 ?_)
 refine A1 rfl (B7 rfl B6) ?_
 refine A4 (A3 (A3 (A2 ?_)))
 refine A5 rfl ?_
 refine A1 rfl (H2 rfl C7 (A0 rfl)) ?_
 refine A1 rfl (B9 rfl B6) ?_
 refine A4 (D1 ?_)
 refine J6 [(1, _), (7, _), (8, _)] _ (fun (i : Nat) => i ≤ l.length ∧ ∀ j x, j < i → l[j]? = some x → x.Key ≠ k) (fun (i : Nat) => []) (fun (i : Nat) => [(9, AV.int i)]) (fun (i : Nat) => l.length - i) (0) ?_ (K0 ⟨rfl, rfl, rfl, rfl, trivial⟩) ?_
 ·exact ⟨Nat.zero_le _, fun j x h => by omega⟩
 intro i hinv
 refine A3 (A2 ?_)
 refine A1 rfl (K5 rfl (A0 rfl) (A0 rfl)) ?_
 refine A4 (A3 ?_)
 refine C4 (A0 rfl) ?_ ?_
 ·intro h10
  have k10 := of_decide_eq_true h10; try simp only [A9] at k10
  have hlt : i < l.length := by omega
  obtain ⟨x, hx⟩ := get_some hlt
  refine C8 (A3 (D1 (A3 (A2 ?_))))
  refine A5 rfl ?_
  refine A1 rfl (J4 rfl C7 E2 (A0 rfl) (A0 rfl) hx (by first | omega | (simp only [C9, A8, szR] at *; omega))) ?_
  refine A1 rfl (L4 rfl (A0 rfl) S7 E2) ?_
  refine G3 rfl rfl rfl rfl Tryz.zeroValue125 rfl ?_
  intro b6
  refine B5 rfl ?_
  refine D7 0 rfl rfl rfl (A0 rfl) (A0 rfl) (F0 _) rfl E2 rfl ?_
  refine A4 (A3 (A2 ?_))
  refine A1 rfl (B1 0 rfl F4 rfl E5 (A0 rfl) rfl) ?_
  refine A1 rfl (B0 0 rfl (A0 rfl) rfl F7 rfl) ?_
  refine A5 rfl ?_
  refine A1 rfl (w7 rfl (A0 rfl) (A0 rfl)) ?_
  refine A4 ?_
  refine C4 (A0 rfl) ?_ ?_
  ·intro h17
   refine A3 (A2 ?_)
   refine A5 rfl ?_
   refine B5 rfl ?_
   refine A4 ?_
   refine C5 ?_
   exact H9 rfl (B8 rfl (by first | exact congrArg AV.int (Ak9 hx (by simpa using h17) hinv.2).symm | exact congrArg AV.int (Al0 fun j x hx => hinv.2 j x (Nat.lt_of_lt_of_le (List.getElem?_eq_some_iff.1 hx).1 hge) hx).symm))
  intro h17
  refine C8 (A2 ?_)
  refine A1 rfl (G7 rfl (A0 rfl) B6 (by first | omega | (simp only [C9, A8, szR] at *; omega))) ?_
  refine A5 rfl ?_
  refine A4 ?_
  refine L9 i (i + 1) ?_ ?_ (U7 1 ⟨rfl, rfl, rfl, rfl, trivial⟩)
  ·exact ⟨by omega, fun j y hj hy => if hji : j < i then hinv.2 j y hji hy else (by have e : j = i := (by omega); subst e; rw [hx] at hy; injection hy with hy; subst hy; simpa using h17)⟩
  omega
 intro h10
 have k10 := of_decide_eq_false h10; try simp only [A9] at k10
 have hge : l.length ≤ i := by omega
 refine G9 ?_
 refine A3 (A2 ?_)
 refine A1 rfl (B7 rfl B6) ?_
 refine A4 ?_
 refine C5 ?_
 exact H9 rfl (B8 rfl (by first | exact congrArg AV.int (Ak9 hx (by simpa using h17) hinv.2).symm | exact congrArg AV.int (Al0 fun j x hx => hinv.2 j x (Nat.lt_of_lt_of_le (List.getElem?_eq_some_iff.1 hx).1 hge) hx).symm))
theorem AF2 (l : List TCell) (k : Str) (ho : CellsOk l) (hs : sizeL TCell.size l ≤ 4194304) : FSpec Tryz.prog 127 [AV.list 2 (l.map TCell.cs), AV.str k] (AV.int (lastTime l k)) := by
 have hl : l.length ≤ 4194304 := Nat.le_trans O2 hs
 refine E9 Tryz.func127 rfl Tryz.ntmps127 rfl ?_
 refine A3 (A2 ?_)
 refine A1 rfl (B7 rfl B6) ?_
 refine A4 (A3 (A2 ?_))
 refine A5 rfl ?_
 refine A5 rfl ?_
 refine A1 rfl (E8 rfl Tryz.call180 rfl (Ae3 _ _) (A7 (A0 rfl) (A7 (A0 rfl) C6))) ?_
 refine B5 rfl ?_
 refine A4 (A3 (A3 (A2 ?_)))
 refine A5 rfl ?_
 refine A1 rfl (K5 rfl (A0 rfl) B6) ?_
 refine A4 ?_
 refine C4 (A0 rfl) ?_ ?_
 ·intro h10
  have k10 := of_decide_eq_true h10; try simp only [A9] at k10
  have hn : findC l k = none := As4 k10
  have he : lastTime l k = 0 := by unfold lastTime; rw [hn]
  rw [he]
  refine A3 (A2 ?_)
  refine A1 rfl (B7 rfl B6) ?_
  refine A4 ?_
  refine C5 ?_
  exact H9 rfl (B8 rfl (by first | rfl | (refine congrArg AV.bool ?_; simp_all; done)))
 intro h10
 have k10 := of_decide_eq_false h10; try simp only [A9] at k10
 obtain ⟨p, c, hp, hc, hf⟩ := As5 k10
 rw [hp]
 obtain ⟨v, hv, hlv⟩ := Ae2 (ho.2 c (G2 hc))
 have hcl := f0 (Nat.le_trans (X6 hc) hs)
 have hc1 := ho.2 c (G2 hc)
 have he : lastTime l k = v.Time := by unfold lastTime; rw [hf]; exact hlv
 rw [he]
 refine C8 (A3 ?_)
 refine J5 (by kernel_rfl) (by kernel_rfl) rfl ?_
 refine B2 rfl rfl (B9 rfl (A0 rfl)) ?_
 refine B2 rfl rfl (B9 rfl (A0 rfl)) ?_
 refine B2 rfl rfl (J4 rfl C7 E2 (A0 rfl) (A0 rfl) hc (by first | omega | (simp only [C9, A8, szR] at *; omega))) ?_
 refine B2 rfl rfl (V7 rfl F4 rfl K1 (A0 rfl) rfl) ?_
 refine B2 rfl rfl (N9 rfl (A0 rfl) N5 rfl) ?_
 refine B2 rfl rfl (B9 rfl (A0 rfl)) ?_
 refine B2 rfl rfl (B9 rfl (A0 rfl)) ?_
 refine B2 rfl rfl (J4 rfl C7 E2 (A0 rfl) (A0 rfl) hc (by first | omega | (simp only [C9, A8, szR] at *; omega))) ?_
 refine B2 rfl rfl (V7 rfl F4 rfl K1 (A0 rfl) rfl) ?_
 refine B2 rfl rfl (N9 rfl (A0 rfl) N5 rfl) ?_
 refine B2 rfl rfl (H2 rfl G8 (A0 rfl)) ?_
 refine B2 rfl rfl (P9 rfl (A0 rfl) B6 (by first | omega | (simp only [C9, A8, szR] at *; omega))) ?_
 refine B2 rfl rfl (J4 rfl G8 L1 (A0 rfl) (A0 rfl) hv (by first | omega | (simp only [C9, A8, szR] at *; omega))) ?_
 refine B2 rfl rfl (V7 rfl J8 rfl B4 (A0 rfl) rfl) ?_
 refine B2 rfl rfl (N9 rfl (A0 rfl) C2 rfl) ?_
 refine B2 rfl rfl (B7 rfl (A0 rfl)) ?_
 refine P2 ?_
 refine C5 ?_
 exact H9 rfl (B8 rfl (by first | rfl | (refine congrArg AV.bool ?_; simp_all; done)))
theorem AD5 (a b : List TCell) (hs : sizeL TCell.size a ≤ 4194304) : FSpec Tryz.prog 36 [AV.list 2 (a.map TCell.cs), AV.list 2 (b.map TCell.cs)] (AV.bool (decide (a = b))) := by
 refine E9 Tryz.func36 rfl Tryz.ntmps36 rfl ?_
 refine U6 (t := 0) rfl fun hl => ?_
 try simp only [A9] at hl
 refine A3 (A2 ?_)
 refine A1 rfl (B7 rfl F8) ?_
 refine A4 (A3 (A3 (A2 ?_)))
 refine A5 rfl ?_
 refine A1 rfl (H2 rfl C7 (A0 rfl)) ?_
 refine A5 rfl ?_
 refine A1 rfl (H2 rfl C7 (A0 rfl)) ?_
 refine A1 rfl (n4 rfl (A0 rfl) (A0 rfl)) ?_
 refine A4 ?_
 refine C4 (A0 rfl) ?_ ?_
 ·intro h13
  have k13 := k6 h13; try simp only [A9] at k13
  have hab : a ≠ b := by intro hc; subst hc; exact k13 rfl
  refine A3 (A2 ?_)
  refine A1 rfl (B7 rfl F8) ?_
  refine A4 ?_
  refine C5 ?_
  exact H9 rfl (B8 rfl (by exact congrArg AV.bool (by simp [hab])))
 intro h13
 have k13 := X9 h13; try simp only [A9] at k13
 have heq : a.length = b.length := by omega
 refine C8 (A3 (A3 (A2 ?_)))
 refine A5 rfl ?_
 refine A1 rfl (H2 rfl C7 (A0 rfl)) ?_
 refine A1 rfl (B9 rfl B6) ?_
 refine A4 (D1 ?_)
 refine J6 [(1, _), (14, _), (15, _)] _ (fun (i : Nat) => i ≤ a.length ∧ a.take i = b.take i) (fun (i : Nat) => []) (fun (i : Nat) => [(16, AV.int i)]) (fun (i : Nat) => a.length - i) (0) ?_ (K0 ⟨rfl, rfl, rfl, rfl, trivial⟩) ?_
 ·exact ⟨Nat.zero_le _, rfl⟩
 intro i hinv
 refine A3 (A2 ?_)
 refine A1 rfl (K5 rfl (A0 rfl) (A0 rfl)) ?_
 refine A4 (A3 ?_)
 refine C4 (A0 rfl) ?_ ?_
 ·intro h17
  have k17 := of_decide_eq_true h17; try simp only [A9] at k17
  have hlt : i < a.length := by omega
  obtain ⟨x, hx⟩ := get_some hlt
  obtain ⟨y, hy⟩ := get_some (show i < b.length by omega)
  refine C8 (A3 (D1 (A3 (A2 ?_))))
  refine A5 rfl ?_
  refine A1 rfl (J4 rfl C7 E2 (A0 rfl) (A0 rfl) hx (by first | omega | (simp only [C9, A8, szR] at *; omega))) ?_
  refine A1 rfl (L4 rfl (A0 rfl) S7 E2) ?_
  refine G3 rfl rfl rfl rfl Tryz.zeroValue125 rfl ?_
  intro b6
  refine B5 rfl ?_
  refine D7 0 rfl rfl rfl (A0 rfl) (A0 rfl) (F0 _) rfl E2 rfl ?_
  refine A4 (A3 (A2 ?_))
  refine A5 rfl ?_
  refine A5 rfl ?_
  refine A1 rfl (J4 rfl C7 E2 (A0 rfl) (A0 rfl) hy (by first | omega | (simp only [C9, A8, szR] at *; omega))) ?_
  refine A1 rfl (L4 rfl (A0 rfl) S7 E2) ?_
  refine G3 rfl rfl rfl rfl Tryz.zeroValue125 rfl ?_
  intro b7
  refine D7 0 rfl rfl rfl (A0 rfl) (A0 rfl) (F0 _) rfl E2 rfl ?_
  refine A4 (A3 (A3 (A2 ?_)))
  refine A1 rfl (B1 0 rfl F4 rfl E5 (A0 rfl) rfl) ?_
  refine A1 rfl (B0 1 rfl (A0 rfl) rfl F7 rfl) ?_
  refine A1 rfl (B1 0 rfl F4 rfl E5 (A0 rfl) rfl) ?_
  refine A1 rfl (B0 0 rfl (A0 rfl) rfl F7 rfl) ?_
  refine A1 rfl (AU6 rfl (A0 rfl) (A0 rfl)) ?_
  refine A5 rfl ?_
  refine H8 rfl (fun hc => B1 1 rfl F4 rfl K1 (A0 rfl) rfl) ?_
  refine H8 rfl (fun hc => B0 1 rfl (A6 rfl hc) rfl N5 rfl) ?_
  refine H8 rfl (fun hc => H2 rfl G8 (A6 rfl hc)) ?_
  refine H8 rfl (fun hc => B1 1 rfl F4 rfl K1 (A0 rfl) rfl) ?_
  refine H8 rfl (fun hc => B0 0 rfl (A6 rfl hc) rfl N5 rfl) ?_
  refine H8 rfl (fun hc => H2 rfl G8 (A6 rfl hc)) ?_
  refine H8 rfl (fun hc => n4 rfl (A6 rfl hc) (A6 rfl hc)) ?_
  refine A1 rfl (R5 rfl (A0 rfl) (F9 rfl)) ?_
  refine A4 ?_
  refine C4 (A0 rfl) ?_ ?_
  ·intro h38
   have hab : a ≠ b := by intro hc; subst hc; rw [hx] at hy; injection hy with hy; subst hy; simp at h38
   refine A3 (A2 ?_)
   refine A1 rfl (B7 rfl F8) ?_
   refine A4 ?_
   refine C5 ?_
   exact H9 rfl (B8 rfl (by exact congrArg AV.bool (by simp [hab])))
  intro h38
  have hke : x.Key = y.Key ∧ x.Vers.length = y.Vers.length := by simp at h38; exact ⟨h38.1, by omega⟩
  refine C8 (A3 (A2 ?_))
  refine A1 rfl (B1 1 rfl F4 rfl K1 (A0 rfl) rfl) ?_
  refine A1 rfl (B0 1 rfl (A0 rfl) rfl N5 rfl) ?_
  refine A1 rfl (H2 rfl G8 (A0 rfl)) ?_
  refine A1 rfl (B9 rfl B6) ?_
  refine A4 (D1 ?_)
  have hinvo := hinv
  have hxl := (f0 (Nat.le_trans (X6 hx) hs)).2.1
  refine J6 [(1, _), (5, _), (6, _), (7, _), (14, _), (15, _), (16, _), (17, _), (18, _), (19, _), (20, _), (21, _), (22, _), (23, _), (24, _), (25, _), (26, _), (27, _), (28, _), (29, _), (30, _), (38, _), (39, _), (40, _), (41, _)] _ (fun (q : Nat) => q ≤ x.Vers.length ∧ x.Vers.take q = y.Vers.take q) (fun (q : Nat) => []) (fun (q : Nat) => [(42, AV.int q)]) (fun (q : Nat) => x.Vers.length - q) (0) ?_ (K0 ⟨rfl, rfl, rfl, rfl, rfl, rfl, rfl, rfl, rfl, rfl, rfl, rfl, rfl, rfl, rfl, rfl, rfl, rfl, rfl, rfl, rfl, rfl, rfl, rfl, rfl, rfl, trivial⟩) ?_
  ·exact ⟨Nat.zero_le _, rfl⟩
  intro q hinv
  refine A3 (A2 ?_)
  refine A1 rfl (K5 rfl (A0 rfl) (A0 rfl)) ?_
  refine A4 (A3 ?_)
  refine C4 (A0 rfl) ?_ ?_
  ·intro h43
   have k43 := of_decide_eq_true h43; try simp only [A9] at k43
   have hltq : q < x.Vers.length := by omega
   obtain ⟨u, hu⟩ := get_some hltq
   obtain ⟨w, hw⟩ := get_some (show q < y.Vers.length by omega)
   refine C8 (A3 (D1 (A3 (A2 ?_))))
   refine A5 rfl ?_
   refine B5 rfl ?_
   refine A4 (A3 ?_)
   refine J5 (by kernel_rfl) (by kernel_rfl) rfl ?_
   refine B2 rfl rfl (B1 1 rfl F4 rfl K1 (A0 rfl) rfl) ?_
   refine B2 rfl rfl (B0 1 rfl (A0 rfl) rfl N5 rfl) ?_
   refine B2 rfl rfl (B9 rfl (A0 rfl)) ?_
   refine B2 rfl rfl (J4 rfl G8 L1 (A0 rfl) (A0 rfl) hu (by first | omega | (simp only [C9, A8, szR] at *; omega))) ?_
   refine B2 rfl rfl (L4 rfl (A0 rfl) a6 L1) ?_
   refine B2 rfl rfl (B1 1 rfl F4 rfl K1 (A0 rfl) rfl) ?_
   refine B2 rfl rfl (B0 0 rfl (A0 rfl) rfl N5 rfl) ?_
   refine B2 rfl rfl (B9 rfl (A0 rfl)) ?_
   refine B2 rfl rfl (J4 rfl G8 L1 (A0 rfl) (A0 rfl) hw (by first | omega | (simp only [C9, A8, szR] at *; omega))) ?_
   refine B2 rfl rfl (L4 rfl (A0 rfl) a6 L1) ?_
   refine B2 rfl rfl (w_aneq rfl J8 (by kernel_rfl) (by kernel_rfl) (A0 rfl) (A0 rfl) (Z0 (by kernel_rfl) C2 rfl rfl (AF8 P8) (Z0 (by kernel_rfl) F7 rfl rfl (AF9 M6) (Z0 (by kernel_rfl) K9 rfl rfl (AS1 Y5) AY8)))) ?_
   refine P2 ?_
   refine C4 (A0 rfl) ?_ ?_
   ·intro h55
    have hab : a ≠ b := by intro hc; subst hc; rw [hx] at hy; injection hy with hy; subst hy; rw [hu] at hw; injection hw with hw; subst hw; simp at h55
    refine A3 (A2 ?_)
    refine A1 rfl (B7 rfl F8) ?_
    refine A4 ?_
    refine C5 ?_
    exact H9 rfl (B8 rfl (by exact congrArg AV.bool (by simp [hab])))
   intro h55
   refine C8 (A2 ?_)
   refine A1 rfl (G7 rfl (A0 rfl) B6 (by first | omega | (simp only [C9, A8, szR] at *; omega))) ?_
   refine A5 rfl ?_
   refine A4 ?_
   refine L9 q (q + 1) ?_ ?_ (K0 ⟨rfl, rfl, rfl, rfl, rfl, rfl, rfl, rfl, rfl, rfl, rfl, rfl, rfl, rfl, rfl, rfl, rfl, rfl, rfl, rfl, rfl, rfl, rfl, rfl, rfl, rfl, trivial⟩)
   ·exact ⟨by omega, AK8 hinv.2 hu (by rw [hw]; congr 1; first | (simp_all; done) | (cases u; cases w; simp_all))⟩
   omega
  intro h43
  have k43 := of_decide_eq_false h43; try simp only [A9] at k43
  have hgq : x.Vers.length ≤ q := by omega
  have hxv := AV4 hke.2 hinv.2 hgq
  have hxy : x = y := by cases x; cases y; simp only [TCell.mk.injEq]; exact ⟨hke.1, hxv⟩
  refine G9 ?_
  refine A2 ?_
  refine A1 rfl (G7 rfl (A0 rfl) B6 (by first | omega | (simp only [C9, A8, szR] at *; omega))) ?_
  refine A5 rfl ?_
  refine A4 ?_
  refine L9 i (i + 1) ?_ ?_ (U7 2 ⟨rfl, rfl, rfl, rfl, trivial⟩)
  ·exact ⟨by omega, AK8 hinvo.2 hx (by rw [hy, hxy])⟩
  omega
 intro h17
 have k17 := of_decide_eq_false h17; try simp only [A9] at k17
 have hge : a.length ≤ i := by omega
 have hab : a = b := AV4 heq hinv.2 hge
 refine G9 ?_
 refine A3 (A2 ?_)
 refine A1 rfl (B7 rfl F8) ?_
 refine A4 ?_
 refine C5 ?_
 exact H9 rfl (B8 rfl (by exact congrArg AV.bool (by simp [hab])))
end Go.Proofs.YtkegepoihkhihaaGreat

namespace Go.AV
section
variable {P : Program} {G : Nat → Prop} {n : Nat} {own : List Own} {o : Oper}
theorem Ae4 {rest : List Own} : ∀ b, (fun _ : Nat => False) b → b ∈ rest.filterMap Own.blk := fun _ h => h.elim
theorem Q1 {rest : List Own} : ∀ b, blksOf [] b → b ∈ rest.filterMap Own.blk := fun _ ⟨_, h, _⟩ => by simp at h
theorem T6 {q q' : Own} {ow rest : List Own} (i : Nat) (h : rest[i]? = some q') (hb : Own.blk q = Own.blk q') (k : ∀ b, blksOf ow b → b ∈ rest.filterMap Own.blk) : ∀ b, blksOf (q :: ow) b → b ∈ rest.filterMap Own.blk := fun b ⟨x, hx, hxb⟩ => by
  rcases List.mem_cons.1 hx with rfl | hx
  · exact List.mem_filterMap.2 ⟨q', G2 h, hb ▸ hxb⟩
  · exact k b ⟨x, hx, hxb⟩
theorem AI4 {sel rest : List Own} {w0 : World} {R0 R : RHeap} {w : World} (h : Core G w0 R0 (sel ++ rest) R w) (hG : ∀ b, G b → b ∈ rest.filterMap Own.blk) : Core G w0 R0 rest (lend sel w R) w := by
  have hl := U5 h
  refine ⟨h.os, h.tape, h.output, h.size, h.block, AN9 hl, fun b hb => ?_, fun q hq => ?_, fun q hq => h.fresh q (List.mem_append_right _ hq), (AH4 h).sep⟩
  · unfold lend
    cases hob : ownB sel b with
    | true =>
      obtain ⟨x, hx, hxb⟩ := l4 hob
      rcases h.fresh x (List.mem_append_left _ hx) b hxb with h1 | h1
      · omega
      · obtain ⟨y, hy, hyb⟩ := List.mem_filterMap.1 (hG b h1)
        exact absurd hyb (y5 h.sep hx hy hxb)
    | false => exact h.rold b hb
  · have hk := h.owned q (List.mem_append_right _ hq)
    refine Own.ok_keep hk (e6 hl) fun b hb => ⟨rfl, ?_⟩
    unfold lend
    cases hob : ownB sel b with
    | true =>
      obtain ⟨x, hx, hxb⟩ := l4 hob
      exact absurd hb (y5 h.sep hx hq hxb)
    | false => exact (Own.ok_blk hk hb).1
theorem Z3 {env : List (Nat × AV)} {sel rest : List Own} {x y : AV} (is : List Nat) (t : Nat) (hp : pick own is = (sel, rest)) (ht : getv t env = some x) (hl : LendTo sel x y) (hG : ∀ b, G b → b ∈ rest.filterMap Own.blk) : Le G n ⟨own, env⟩ ⟨rest, (t, y) :: env⟩ := fun w0 R0 R a w ⟨h1, h2, h3⟩ => by
  have hc := i3 h1 hp
  refine ⟨lend sel w R, e6 (U5 hc), AI4 hc hG, fun k z hz => ?_, h3⟩
  simp only [getv] at hz
  by_cases hk : t = k
  · subst hk
    simp [Nat.beq_refl] at hz
    rw [← hz]
    exact hl G w0 R0 R w _ (U5 hc) (h2 t x ht)
  · rw [m3 hk, cond_false] at hz
    exact z.mono (e6 (U5 hc)) (h2 k z hz)
theorem AB9 {ops : Array Oper} {rest : List Oper} {env : List (Nat × AV)} {K : AState → Prop} {d : Nat} {c : Bool} (hd : o.dst = some d) (hn : Nat.blt d n = true) (hg : GuardIs ops o (getv · env) c)
    (ht : c = true → ASeq P G n ops ({ o with guard := none } :: rest) ⟨own, env⟩ K) (hf : c = false → ASeq P G n ops rest ⟨own, (d, AV.is undef) :: env⟩ K) : ASeq P G n ops (o :: rest) ⟨own, env⟩ K := fun w0 R0 R a w hs => by
  have hgc := hg R a fun t _ y hy => hs.2.1 t y hy
  cases c with
  | true =>
    refine ⟨fun _ => ?_, fun hw => by rw [hgc] at hw; exact Bool.noConfusion hw⟩
    exact (ht rfl w0 R0 R a w hs).1 rfl
  | false =>
    refine ⟨fun hw => by rw [hgc] at hw; exact Bool.noConfusion hw, fun _ => ⟨_, R, hf rfl, RSub.refl _, ?_⟩⟩
    obtain ⟨h1, h2, h3, h4⟩ := hs
    refine ⟨h1, ?_, by rw [Q2]; exact h3, by rw [O6]; exact h4⟩
    have := Z6 (d := o.dst) (x := AV.is undef) (v := undef) h2 (RSub.refl R) (fun q e => by rw [h3]; rw [hd] at e; injection e with e; subst e; exact Nat.blt_eq.mp hn) rfl
    rw [hd] at this ⊢
    exact this
theorem As8 {E : EnvF} {p : Operand} {b : Bool} {x : AV} (h : b = false) : EvIf E p b x := fun hb => by rw [h] at hb; cases hb
def bandI (x y : Int) : Int := IntKind.u64.wrap (((BitVec.ofInt IntKind.u64.bits x &&& BitVec.ofInt IntKind.u64.bits y).toNat : Nat) : Int)
theorem w_band {E : EnvF} {t ty : TypeId} {p q : Operand} {x y : Int} (ho : o.op = .binOp .and t p q ty) (hp : Ev E p (AV.ik .u64 x)) (hq : Ev E q (AV.ik .u64 y)) : OpW P G n own o E (AV.ik .u64 (bandI x y)) := M7 fun R a w _ he => by
  have h1 : a.eval p = .int .u64 x := H3 hp (by simp [ho, Op.operands]) he
  have h2 : a.eval q = .int .u64 y := H3 hq (by simp [ho, Op.operands]) he
  exact ⟨.int .u64 (bandI x y), by simp only [execOp, ho, h1, h2]; simp [go_sem]; rfl, rfl⟩
theorem Ah2 {Inv : List Own → Prop} {md : Region.Mode} {ops : Array Oper} {m i : Nat} {oi : Oper} {x : AV} {L : Array Bool → EnvF → List Own → Prop} (hi : ops[i]? = some oi)
    (hm0 : m = ops.size) (hin : i < m)
    (hdone : ∀ listed E W, L listed E W → ∀ j ∈ Region.ready md ops listed, m ≤ j) :
    ∀ (f : Nat) (listed : Array Bool) (E : EnvF) (W : List Own), HeadInv md ops m listed → Inv W →
      (∀ j oj, ops[j]? = some oj → j ≠ i → listed.getD j true = false → (∀ e ∈ oj.after, Region.binds md e = true → e.on ≠ i) → oi.apart ops oj = true) →
      i ∈ Region.ready md ops listed → (∀ W, Inv W → OpA P G n W ops oi E x) →
      wpAnyB P G n Inv md ops m L f (listed.setIfInBounds i true) (updF oi.dst x E) W → wpAnyB P G n Inv md ops m L (f + 1) listed E W := by
  have put : ∀ {K : EnvF → List Own → Prop} {E : EnvF} {W : List Own}, Inv W → (∀ W, Inv W → OpA P G n W ops oi E x) → K (updF oi.dst x E) W → qB P G n Inv ops i K E W := fun hW hy hK => by
    unfold qB
    simp only [hi]
    exact .inl ⟨x, hy _ hW, hK⟩
  intro f
  induction f with
  | zero =>
    intro listed E W inv hW _ hr hy H
    have hun := (mem_ready.1 hr).1
    refine ⟨fun h => (by rw [h] at hr; cases hr), fun j hj => ?_⟩
    have hjn : j < m := by
      rcases Nat.lt_or_ge j m with h | h
      · exact h
      · obtain ⟨_, oj, hoj, _⟩ := mem_ready.1 hj
        have := (Array.getElem?_eq_some_iff.1 hoj).1
        omega
    refine ⟨hjn, ?_⟩
    by_cases hji : j = i
    · subst hji; exact put hW hy H
    · have := hdone _ _ _ H j (ready_mono hj hji)
      omega
  | succ f ih =>
    intro listed E W inv hW hfree hr hy H
    have hun := (mem_ready.1 hr).1
    refine ⟨fun h => (by rw [h] at hr; cases hr), fun j hj => ?_⟩
    have hjn : j < m := by
      rcases Nat.lt_or_ge j m with h | h
      · exact h
      · obtain ⟨_, oj, hoj, _⟩ := mem_ready.1 hj
        have := (Array.getElem?_eq_some_iff.1 hoj).1
        omega
    refine ⟨hjn, ?_⟩
    by_cases hji : j = i
    · subst hji; exact put hW hy H
    · have h1 := (H.2 j (ready_mono hj hji)).2
      obtain ⟨hjun, oj, hoj, hall⟩ := mem_ready.1 hj
      have hnot : ∀ e ∈ oj.after, Region.binds md e = true → e.on ≠ i := fun e he hb heq => by
        have h1 := hall e he hb
        rw [heq, getD_both hun] at h1
        cases h1
      have h2 := qB_put hoj (hfree j oj hoj hji hjun hnot) hW hy h1
      have hfree' : ∀ k ok, ops[k]? = some ok → k ≠ i → (listed.setIfInBounds j true).getD k true = false →
          (∀ e ∈ ok.after, Region.binds md e = true → e.on ≠ i) → oi.apart ops ok = true := fun k ok hk hki hun hno => by
        refine hfree k ok hk hki ?_ hno
        by_cases hjk : j = k
        · subst hjk; exact hjun
        · rw [getD_set_ne true hjk] at hun; exact hun
      refine As1 hW (fun E' W' hW' h3 => ih (listed.setIfInBounds j true) E' W' (inv.set hj hjn) hW' hfree' (ready_mono hr (Ne.symm hji)) h3.1 ?_) h2
      rw [Array.setIfInBounds_comm _ _ hji]
      exact h3.2
def treeZ (md : Region.Mode) (ops : Array Oper) (m : Nat) (ord : OT) : Bool :=
  decide (m = ops.size) && ord.deep m && ordT md ops (ops.size - m) m ord (Array.replicate ops.size false)
theorem r3 {Inv : List Own → Prop} {md : Region.Mode} {ops : Array Oper} {m g : Nat} {K : List (Nat × AV) → List Own → Prop} (hm0 : m = ops.size) :
    ∀ (l : OT) (f : Nat) (listed : Array Bool) (env : List (Nat × AV)) (W : List Own), l.deep f = true → HeadInv md ops m listed → Inv W →
    ordT md ops g m l listed = true → BT P G n Inv ops l env W K →
    wpAnyB P G n Inv md ops m (fun listed' E W => Region.seqB md ops g m listed' = true ∧ ∃ env', E = (getv · env') ∧ K env' W) f listed (getv · env) W
  | .nil, 0, listed, env, W, _, _, _, hB, h => ⟨hB, env, rfl, h⟩
  | .nil, _ + 1, _, _, _, hdp, _, _, _, _ => by cases hdp
  | .pure _ _, 0, _, _, _, hdp, _, _, _, _ => by cases hdp
  | .e1 _ _, 0, _, _, _, hdp, _, _, _, _ => by cases hdp
  | .e2 _ _ _ _, 0, _, _, _, hdp, _, _, _, _ => by cases hdp
  | .pure i l, f + 1, listed, env, W, hdp, inv, hW, hB, h => by
    simp only [ordT, Bool.and_eq_true] at hB
    obtain ⟨⟨⟨hr, hf⟩, hlt⟩, hB'⟩ := hB
    have hkn : i < m := Nat.blt_eq.mp hlt
    have hr' : i ∈ Region.ready md ops listed := by simpa using hr
    obtain ⟨o, ho, x, hx, hK⟩ := h
    refine Ah2 ho hm0 hkn (fun listed' E W hL => seqB_ready hL.1) f listed _ W inv hW (Region.free_spec ho hf) hr' hx ?_
    rw [← V6]
    exact r3 hm0 l f _ _ W hdp (inv.set hr' hkn) hW hB' hK
  | .e1 i l, f + 1, listed, env, W, hdp, inv, hW, hB, h => by
    simp only [ordT, Bool.and_eq_true, decide_eq_true_eq] at hB
    obtain ⟨⟨hr, hlt⟩, hB'⟩ := hB
    have hkn : i < m := Nat.blt_eq.mp hlt
    have hr' : i ∈ Region.ready md ops listed := by rw [hr]; simp
    obtain ⟨o, ho, hg, α, ok, W', V, h1, h2, h3⟩ := h
    refine ⟨fun h0 => (by rw [h0] at hr'; cases hr'), fun j hj => ?_⟩
    rw [hr] at hj
    have : j = i := by simpa using hj
    subst this
    refine ⟨hkn, ?_⟩
    unfold qB
    simp only [ho]
    refine .inr ⟨hg, α, ok, W', V, h1, h2, fun a ha => ?_⟩
    rw [← V6]
    exact r3 hm0 l f _ _ (W' a) hdp (inv.set hr' hkn) (h2 a ha) hB' (h3 a ha)
  | .e2 i l k u, f + 1, listed, env, W, hdp, inv, hW, hB, h => by
    simp only [ordT, Bool.and_eq_true, decide_eq_true_eq] at hB
    obtain ⟨⟨⟨⟨hr, hlt⟩, hlt2⟩, hB'⟩, hB2⟩ := hB
    simp only [OT.deep, Bool.and_eq_true] at hdp
    have hkn : i < m := Nat.blt_eq.mp hlt
    have hkn2 : k < m := Nat.blt_eq.mp hlt2
    have hr' : i ∈ Region.ready md ops listed := by rw [hr]; simp
    have hr2 : k ∈ Region.ready md ops listed := by rw [hr]; simp
    obtain ⟨⟨o, ho, hg, α, ok, W', V, h1, h2, h3⟩, ⟨o', ho', hg', α', ok', W'', V', h1', h2', h3'⟩⟩ := h
    refine ⟨fun h0 => (by rw [h0] at hr'; cases hr'), fun j hj => ?_⟩
    rw [hr] at hj
    simp only [List.mem_cons, List.not_mem_nil, or_false] at hj
    rcases hj with hj | hj
    · subst hj
      refine ⟨hkn, ?_⟩
      unfold qB
      simp only [ho]
      refine .inr ⟨hg, α, ok, W', V, h1, h2, fun a ha => ?_⟩
      rw [← V6]
      exact r3 hm0 l f _ _ (W' a) hdp.1 (inv.set hr' hkn) (h2 a ha) hB' (h3 a ha)
    · subst hj
      refine ⟨hkn2, ?_⟩
      unfold qB
      simp only [ho']
      refine .inr ⟨hg', α', ok', W'', V', h1', h2', fun a ha => ?_⟩
      rw [← V6]
      exact r3 hm0 u f _ _ (W'' a) hdp.2 (inv.set hr2 hkn2) (h2' a ha) hB2 (h3' a ha)
theorem AC0 {id : Nat} {l : List Oper} {Q : Exit → AState → Prop} {env : List (Nat × AV)} {own : List Own} (base : List Own) (m : Nat) (ord : OT) (hm : P.follows .mixedOrders = true) (hB : treeZ .any l.toArray m ord = true) (hd : dstOk n l = true) (hb : InvX base own)
  (h : BT P G n (InvX base) l.toArray ord env own (fun env' W => ASeq P G n l.toArray (l.drop m) ⟨W, env'⟩ (Q .normal))) : AWP P G n (.region id l.toArray true) Q ⟨own, env⟩ := fun w0 R0 R a w ⟨h1, h2, h3, h4⟩ => by
 simp only [treeZ, Bool.and_eq_true, decide_eq_true_eq] at hB
 obtain ⟨⟨hm0, hdp⟩, hlex⟩ := hB
 have hn' : m = l.length := by simpa using hm0
 have hdl : (l.drop m).length = l.toArray.size - m := by simp
 have inv0 : HeadInv .any l.toArray m (Array.replicate l.toArray.size false) :=
  ⟨by simp, fun j oj _ hl => (by rw [getD_replicate_false] at hl; cases hl), fun t _ ht => getD_in (by simpa using ht) (getD_replicate_false _ _)⟩
 have H := r3 (g := l.toArray.size - m) hm0 ord m _ env own hdp inv0 hb hlex h
 refine wp_region_any hm ?_
 have := i7 (w0 := w0) (R0 := R0) (R00 := R) (g := l.toArray.size - m) (Q' := fun e a' w' => ∃ s' R', Q e s' ∧ RSub R R' ∧ St G n w0 R0 s' R' a' w') (fun i o ho d e => p7 hd i o (by simpa using ho) d e) (fun listed E W R' a' w' g1 g2 g3 g4 g5 hL => by
  obtain ⟨hL1, env', rfl, hL2⟩ := hL
  have := wpAny_of_seq (P := P) (md := .any) (Q' := fun e a' w' => ∃ s' R', Q e s' ∧ RSub R R' ∧ St G n w0 R0 s' R' a' w') (l.drop m) m listed a' w' (fun j => by simp [List.getElem?_drop]) (by rw [hdl]; exact hL1)
   (c4 (R00 := R) (K := Q .normal) (fun s' R' a w q r1 r2 => ⟨s', R', q, r1, r2⟩) _ (⟨W, env'⟩ : AState) R' a' w' g1 ⟨g2, g3, g4, g5⟩ hL2)
  rwa [hdl] at this) _ _ _ own R a _ (RSub.refl _) (o5 h1) h2 h3 h4 H
 rw [show m + (l.toArray.size - m) = l.toArray.size by omega] at this
 exact this
end
end Go.AV

namespace Go.AV
section
variable {P : Program} {G : Nat → Prop} {n : Nat} {own : List Own} {o : Oper}
def OwnC (sel : List Own) : Own → Own → Prop
  | .box b t cs, .box b' t' cs' => b = b' ∧ t = t' ∧ LendC sel cs cs'
  | .arr v t sz es, .arr v' t' sz' es' => v = v' ∧ t = t' ∧ sz = sz' ∧ LendE sel es es'
  | .frz b t cs, .frz b' t' cs' => b = b' ∧ t = t' ∧ LendC sel cs cs'
  | .tab T, .tab T' => T = T'
  | _, _ => False
def OwnsC (sel own own' : List Own) : Prop := own.length = own'.length ∧ ∀ (i : Nat) (q q' : Own), own[i]? = some q → own'[i]? = some q' → OwnC sel q q'
theorem oc_nil {sel : List Own} : OwnsC sel [] [] := ⟨rfl, fun i q q' h => by simp at h⟩
theorem oc_cons {sel a b : List Own} {q q' : Own} (h : OwnC sel q q') (k : OwnsC sel a b) : OwnsC sel (q :: a) (q' :: b) := ⟨by simp [k.1], fun i x y hx hy => by
  cases i with
  | zero => simp at hx hy; subst hx; subst hy; exact h
  | succ i => exact k.2 i x y (by simpa using hx) (by simpa using hy)⟩
theorem oc_blk {sel : List Own} {q q' : Own} (h : OwnC sel q q') : Own.blk q = Own.blk q' := by
  cases q <;> cases q' <;> unfold OwnC at h
  · exact congrArg some h.1
  · exact h.elim
  · exact h.elim
  · exact h.elim
  · exact h.elim
  · exact congrArg Value.ownBlock h.1
  · exact h.elim
  · exact h.elim
  · exact h.elim
  · exact h.elim
  · exact congrArg some h.1
  · exact h.elim
  · exact h.elim
  · exact h.elim
  · exact h.elim
  · rfl
theorem oc_map {sel a b : List Own} (h : OwnsC sel a b) : a.map Own.blk = b.map Own.blk := by
  refine List.ext_getElem? fun i => ?_
  rw [List.getElem?_map, List.getElem?_map]
  cases ha : a[i]? with
  | none =>
    have : b[i]? = none := by rw [List.getElem?_eq_none_iff] at ha ⊢; rw [← h.1]; exact ha
    rw [this]
  | some q =>
    have hi : i < b.length := by rw [← h.1]; exact (List.getElem?_eq_some_iff.1 ha).1
    rw [List.getElem?_eq_getElem hi]
    exact congrArg some (oc_blk (h.2 i q _ ha (List.getElem?_eq_getElem hi)))
theorem oc_fm {sel a b : List Own} (h : OwnsC sel a b) : a.filterMap Own.blk = b.filterMap Own.blk := by
  have := congrArg (List.filterMap id) (oc_map h)
  rwa [List.filterMap_map, List.filterMap_map] at this
theorem AM5 {sel : List Own} {xs ys : List AV} {w0 : World} {R0 R : RHeap} {w : World} {vs : List Value} (hc : Core G w0 R0 sel R w) (h : DenC R vs xs) (k : LendC sel xs ys) : DenC (lend sel w R) vs ys :=
  ⟨h.1.trans k.1, fun i v y hv hy => by
    have hi : i < xs.length := by rw [k.1]; exact (List.getElem?_eq_some_iff.1 hy).1
    have hx := List.getElem?_eq_getElem hi
    obtain ⟨h1, h2⟩ := h.2 i v _ hv hx
    exact ⟨k.2 i _ y hx hy G w0 R0 R w v hc h1, h2⟩⟩
theorem AW7 {sel rest rest' : List Own} {w0 : World} {R0 R : RHeap} {w : World} (h : Core G w0 R0 (sel ++ rest) R w) (hG : ∀ b, G b → b ∈ rest.filterMap Own.blk) (hl : OwnsC sel rest rest') : Core G w0 R0 rest' (lend sel w R) w := by
  have hb := AI4 h hG
  have hs := U5 h
  refine ⟨hb.os, hb.tape, hb.output, hb.size, hb.block, hb.rle, hb.rold, fun q' hq' => ?_, fun q' hq' b hqb => ?_, ?_⟩
  · obtain ⟨i, hi⟩ := List.getElem?_of_mem hq'
    have hir : i < rest.length := by rw [hl.1]; exact (List.getElem?_eq_some_iff.1 hi).1
    have hr := List.getElem?_eq_getElem hir
    have hm := G2 hr
    have hoc := hl.2 i _ q' hr hi
    have k1 := hb.owned _ hm
    have k2 := h.owned _ (List.mem_append_right _ hm)
    revert hoc k1 k2
    generalize rest[i] = q
    intro hoc k1 k2
    cases q <;> cases q' <;> unfold OwnC at hoc
    · obtain ⟨rfl, rfl, hc⟩ := hoc
      obtain ⟨_, vs, hv, hd⟩ := k2
      exact ⟨k1.1, vs, hv, AM5 hs hd hc⟩
    · exact hoc.elim
    · exact hoc.elim
    · exact hoc.elim
    · exact hoc.elim
    · obtain ⟨rfl, rfl, rfl, hc⟩ := hoc
      obtain ⟨_, hlen, xs, hx, hd⟩ := k2
      refine ⟨k1.1, fun e he => ?_, xs, ?_, AM5 hs hd (AY9 hc)⟩
      · obtain ⟨j, hj⟩ := List.getElem?_of_mem he
        have hje := List.getElem?_eq_getElem (show j < _ from hc.1.symm ▸ (List.getElem?_eq_some_iff.1 hj).1)
        rw [← (hc.2 j _ e hje hj).1]
        exact hlen _ (G2 hje)
      · rw [← hc.1]; exact hx
    · exact hoc.elim
    · exact hoc.elim
    · exact hoc.elim
    · exact hoc.elim
    · obtain ⟨rfl, rfl, hc⟩ := hoc
      obtain ⟨_, vs, hv, hd⟩ := k2
      exact ⟨k1.1, vs, hv, AM5 hs hd hc⟩
    · exact hoc.elim
    · exact hoc.elim
    · exact hoc.elim
    · exact hoc.elim
    · exact hoc ▸ k1
  · have hm : (some b) ∈ rest'.map Own.blk := List.mem_map.2 ⟨q', hq', hqb⟩
    rw [← oc_map hl] at hm
    obtain ⟨q, hq, hqb2⟩ := List.mem_map.1 hm
    exact hb.fresh q hq b hqb2
  · rw [← oc_fm hl]; exact hb.sep
theorem Ap8 {α β : Type} {f : FuncId} {xs : List AV} {inw : List Own} {ok : α → Prop} {O : α → List Own} {V : α → AV} {ok' : β → Prop} {O' : β → List Own} {V' : β → AV} (g : α → β) (S rest : α → List Own) (hs : GSpec P f xs inw ok O V)
    (hok : ∀ a, ok a → ok' (g a)) (hV : ∀ a, ok a → LendTo (S a) (V a) (V' (g a))) (hp : ∀ a, ok a → (O a).Perm (S a ++ rest a)) (hG : ∀ a, ok a → ∀ b, blksOf inw b → b ∈ (rest a).filterMap Own.blk) (hl : ∀ a, ok a → OwnsC (S a) (rest a) (O' (g a))) : GSpec P f xs inw ok' O' V' := fun R w vs hr hd ho hn =>
  (hs R w vs hr hd ho hn).mono fun e w' ⟨a, v, R', h0, h1, h2, h3⟩ => by
    have hc := Z7 h3 (hp a h0)
    exact ⟨g a, v, lend (S a) w' R', hok a h0, h1, hV a h0 _ _ _ R' w' v (U5 hc) h2, AW7 hc (hG a h0) (hl a h0)⟩
theorem oc_refl {sel : List Own} (q : Own) : OwnC sel q q := by
  cases q with
  | box b t cs => exact ⟨rfl, rfl, AG0⟩
  | arr v t sz es => exact ⟨rfl, rfl, rfl, J7⟩
  | frz b t cs => exact ⟨rfl, rfl, AG0⟩
  | tab T => exact rfl
theorem oc_set {sel l : List Own} {i : Nat} {q q' : Own} (hi : l[i]? = some q) (hc : OwnC sel q q') : OwnsC sel l (l.set i q') := ⟨by simp, fun j x y hx hy => by
  by_cases h : i = j
  · subst h
    rw [List.getElem?_set_self (List.getElem?_eq_some_iff.1 hi).1] at hy
    rw [hi] at hx
    injection hx with hx; injection hy with hy; subst hx; subst hy; exact hc
  · rw [List.getElem?_set_ne h, hx] at hy
    injection hy with hy; subst hy; exact oc_refl _⟩
theorem t2 {env : List (Nat × AV)} {sel rest : List Own} {q : Own} (is : List Nat) (i : Nat) (q' : Own) (hp : pick own is = (sel, rest)) (hi : rest[i]? = some q) (hc : OwnC sel q q') (hG : ∀ b, G b → b ∈ rest.filterMap Own.blk) : Le G n ⟨own, env⟩ ⟨rest.set i q', env⟩ := fun w0 R0 R a w ⟨h1, h2, h3⟩ => by
  have hk := i3 h1 hp
  exact ⟨lend sel w R, e6 (U5 hk), AW7 hk hG (oc_set hi hc), fun t z hz => z.mono (e6 (U5 hk)) (h2 t z hz), h3⟩
section
variable {T X : Type} {ocs : T → X → List AV} {cs : T → List AV} {ow : T → X → List Own}
end
end
end Go.AV

namespace Go.AV
section
variable {P : Program} {G : Nat → Prop} {n : Nat} {own : List Own} {o : Oper} {E : EnvF}
@[reducible] def byteC (b : UInt8) : List AV := [AV.ik .u8 b.toNat]
end
end Go.AV

namespace Go.Proofs.YtkegepoihkhihaaGreat
open Go Go.AV Go.M
attribute [local irreducible] OpW OpA OpS AWP FSpec ESpec RetOk RvDen Le Ev GuardIs
end Go.Proofs.YtkegepoihkhihaaGreat

namespace Go.M
open Go.AV
end Go.M
namespace Go.Proofs.YtkegepoihkhihaaGreat
open Go Go.AV Go.M
attribute [local irreducible] OpW OpA OpS AWP FSpec ESpec GSpec OpE RetOk RetOkG RvDen Le Ev GuardIs SrcIs Int.tmod Int.tdiv IntKind.wrap
end Go.Proofs.YtkegepoihkhihaaGreat

namespace Go.M
open Go.AV
end Go.M
namespace Go.Proofs.YtkegepoihkhihaaGreat
open Go Go.AV Go.M
attribute [local irreducible] OpW OpA OpS AWP FSpec ESpec GSpec OpE RetOk RetOkG RvDen Le Ev GuardIs SrcIs Int.tmod Int.tdiv IntKind.wrap
end Go.Proofs.YtkegepoihkhihaaGreat

namespace Go.M
open Go.AV
end Go.M
namespace Go.Proofs.YtkegepoihkhihaaGreat
open Go Go.AV Go.M
attribute [local irreducible] OpW OpA OpS AWP FSpec ESpec GSpec OpE RetOk RetOkG RvDen Le Ev GuardIs SrcIs Int.tmod Int.tdiv IntKind.wrap
end Go.Proofs.YtkegepoihkhihaaGreat

set_option maxHeartbeats 1000000
namespace Go.M
open Go.AV
end Go.M
namespace Go.Proofs.YtkegepoihkhihaaGreat
open Go Go.AV Go.M
attribute [local irreducible] OpW OpA OpS AWP FSpec ESpec GSpec OpE RetOk RetOkG RvDen Le Ev GuardIs SrcIs
end Go.Proofs.YtkegepoihkhihaaGreat

namespace Go.M
open Go.AV
structure TCur where
  p : Nat
  seed : Int
def bytesI (l : List Int) : AV := AV.list 1 (l.map fun x => [AV.ik .u8 x])
def curC (code : List Int) (c : TCur) : List AV := [bytesI code, AV.int c.p, AV.ik .u64 c.seed]
def ByteL (code : List Int) : Prop := ∀ x ∈ code, 0 ≤ x ∧ x ≤ 255
theorem byteL_of {l : List Int} (h : ∀ x ∈ l, (Lit.int .u8 x).wf = true) : ByteL l := fun x hx => by
  have := h x hx
  simp only [Lit.wf, IntKind.min, IntKind.max, IntKind.signed, IntKind.bits] at this
  simp at this
  omega
theorem AO5 {x : Int} (h : 0 ≤ x ∧ x ≤ 255) : IntKind.i64.wrap x = x := in64 (by omega)
theorem i4 (x : Int) : 0 ≤ bandI x 255 ∧ bandI x 255 ≤ 255 := by
  unfold bandI
  have h1 : (BitVec.ofInt IntKind.u64.bits x &&& BitVec.ofInt IntKind.u64.bits 255).toNat ≤ 255 := by
    rw [BitVec.toNat_and]
    exact Nat.le_trans Nat.and_le_right (by decide)
  generalize (BitVec.ofInt IntKind.u64.bits x &&& BitVec.ofInt IntKind.u64.bits 255).toNat = n at h1
  unfold IntKind.wrap
  simp [IntKind.bits, IntKind.signed]
  omega
end Go.M

namespace Go.Proofs.YtkegepoihkhihaaGreat
open Go Go.AV Go.M
attribute [local irreducible] OpW OpA OpS AWP FSpec ESpec GSpec OpE RetOk RetOkG RvDen Le Ev GuardIs SrcIs Int.tmod IntKind.wrap bandI
theorem AQ2 (b : Nat) (code : List Int) (hcode : ByteL code) (c : TCur) (hp : c.p ≤ 8000000) : GSpec Tryz.prog 117 [AV.ptr b 0] [.box b 114 (curC code c)] (fun x : TCur × Int => x.1.p ≤ c.p + 1 ∧ 0 ≤ x.2 ∧ x.2 ≤ 255) (fun x => [.box b 114 (curC code x.1)]) (fun x => AV.int x.2) := by
 have hcb := hcode
 refine I9 Tryz.func117 rfl Tryz.ntmps117 rfl ?_
 refine A3 (A2 ?_)
 refine A1 rfl (B7 rfl B6) ?_
 refine A4 (A3 (A2 ?_))
 try rw [AO5 hzb]
 refine A1 rfl (B7 rfl B6) ?_
 refine A4 (A3 (A3 ?_))
 refine J5 (by kernel_rfl) (by kernel_rfl) rfl ?_
 refine B2 rfl rfl (B9 rfl (A0 rfl)) ?_
 refine B2 rfl rfl (Y9 rfl (A0 rfl)) ?_
 refine B2 rfl rfl (B1 1 rfl M8 rfl B4 (A0 rfl) rfl) ?_
 refine B2 rfl rfl (B0 0 rfl (A0 rfl) rfl C2 rfl) ?_
 refine B2 rfl rfl (B9 rfl (A0 rfl)) ?_
 refine B2 rfl rfl (Y9 rfl (A0 rfl)) ?_
 refine B2 rfl rfl (B1 0 rfl M8 rfl Tryz.sizeOf59 (A0 rfl) rfl) ?_
 refine B2 rfl rfl (B0 0 rfl (A0 rfl) rfl Tryz.isAgg59 rfl) ?_
 refine B2 rfl rfl (H2 rfl X4 (A0 rfl)) ?_
 refine B2 rfl rfl (K5 rfl (A0 rfl) (A0 rfl)) ?_
 refine P2 ?_
 refine C4 (A0 rfl) ?_ ?_
 ·intro h13
  have k13 := of_decide_eq_true h13; try simp only [A9] at k13
  obtain ⟨z, hz⟩ := get_some (show c.p < code.length by omega)
  have hzb := hcb z (G2 hz)
  refine J5 (by kernel_rfl) (by kernel_rfl) rfl ?_
  refine B2 rfl rfl (B9 rfl (A0 rfl)) ?_
  refine B2 rfl rfl (Y9 rfl (A0 rfl)) ?_
  refine B2 rfl rfl (B1 0 rfl M8 rfl Tryz.sizeOf59 (A0 rfl) rfl) ?_
  refine B2 rfl rfl (B0 0 rfl (A0 rfl) rfl Tryz.isAgg59 rfl) ?_
  refine B2 rfl rfl (B9 rfl (A0 rfl)) ?_
  refine B2 rfl rfl (Y9 rfl (A0 rfl)) ?_
  refine B2 rfl rfl (B1 1 rfl M8 rfl B4 (A0 rfl) rfl) ?_
  refine B2 rfl rfl (B0 0 rfl (A0 rfl) rfl C2 rfl) ?_
  refine B2 rfl rfl (J4 rfl X4 Tryz.sizeOf5 (A0 rfl) (A0 rfl) hz rfl) ?_
  refine B2 rfl rfl (N9 rfl (A0 rfl) Tryz.isAgg5 rfl) ?_
  refine B2 rfl rfl (l0 rfl (by kernel_rfl) P8 (A0 rfl)) ?_
  try rw [AO5 hzb]
  refine B2 rfl rfl (B7 rfl (A0 rfl)) ?_
  refine P2 ?_
  refine A3 (A2 ?_)
  refine A5 rfl ?_
  refine A1 rfl (Y9 rfl (A0 rfl)) ?_
  refine A1 rfl (B1 1 rfl M8 rfl B4 (A0 rfl) rfl) ?_
  refine A1 rfl (B0 0 rfl (A0 rfl) rfl C2 rfl) ?_
  refine A1 rfl (G7 rfl (A0 rfl) B6 (by first | omega | (simp only [C9, A8, szR] at *; omega))) ?_
  refine A1 rfl (Y9 rfl (A0 rfl)) ?_
  refine A1 rfl (B1 1 rfl M8 rfl B4 (A0 rfl) rfl) ?_
  refine K3 0 rfl rfl rfl (A0 rfl) (A0 rfl) (K4 _ _) rfl B4 rfl ?_
  refine A4 (A3 (A2 ?_))
  refine A5 rfl ?_
  refine A5 rfl ?_
  refine A1 rfl (Y9 rfl (A0 rfl)) ?_
  refine A1 rfl (B1 2 rfl M8 rfl W3 (A0 rfl) rfl) ?_
  refine A1 rfl (B0 0 rfl (A0 rfl) rfl g9 rfl) ?_
  refine A1 rfl (w_mul rfl (A0 rfl) B6) ?_
  refine A5 rfl ?_
  refine A1 rfl (l0 rfl (by kernel_rfl) Tryz.underlying112 (A0 rfl)) ?_
  refine A1 rfl (AU4 rfl (A0 rfl) (A0 rfl)) ?_
  refine A1 rfl (AU4 rfl (A0 rfl) B6) ?_
  refine A1 rfl (Y9 rfl (A0 rfl)) ?_
  refine A1 rfl (B1 2 rfl M8 rfl W3 (A0 rfl) rfl) ?_
  refine K3 0 rfl rfl rfl (A0 rfl) (A0 rfl) (K4 _ _) rfl W3 rfl ?_
  refine A4 (A3 (A3 ?_))
  refine J5 (by kernel_rfl) (by kernel_rfl) rfl ?_
  refine B2 rfl rfl (B9 rfl (A0 rfl)) ?_
  refine B2 rfl rfl (Y9 rfl (A0 rfl)) ?_
  refine B2 rfl rfl (B1 1 rfl M8 rfl B4 (A0 rfl) rfl) ?_
  refine B2 rfl rfl (B0 0 rfl (A0 rfl) rfl C2 rfl) ?_
  refine B2 rfl rfl (B9 rfl (A0 rfl)) ?_
  refine B2 rfl rfl (Y9 rfl (A0 rfl)) ?_
  refine B2 rfl rfl (B1 0 rfl M8 rfl Tryz.sizeOf59 (A0 rfl) rfl) ?_
  refine B2 rfl rfl (B0 0 rfl (A0 rfl) rfl Tryz.isAgg59 rfl) ?_
  refine B2 rfl rfl (H2 rfl X4 (A0 rfl)) ?_
  refine B2 rfl rfl (V0 rfl (A0 rfl) (A0 rfl)) ?_
  refine P2 ?_
  refine C4 (A0 rfl) ?_ ?_
  ·intro h53
   have k53 := of_decide_eq_true h53; try simp only [A9] at k53
   refine A3 (A2 ?_)
   refine A5 rfl ?_
   refine B5 rfl ?_
   refine A4 ?_
   refine C5 ?_
   (refine M3 [0] ((⟨c.p + 1, _⟩, _)) ?_ rfl (by first | (dsimp only; rfl) | rfl) (P7 rfl (B8 rfl (by first | rfl | (refine congrArg AV.bool ?_; simp_all; done)))); first | exact ⟨Nat.le_refl _, hzb⟩ | exact ⟨Nat.le_refl _, Int.le_refl 0, (show (0 : Int) ≤ 255 by decide)⟩ | (rw [AO5 (i4 _)]; exact ⟨Nat.le_refl _, i4 _⟩))
  intro h53
  have k53 := of_decide_eq_false h53; try simp only [A9] at k53
  refine C8 (A3 (A2 ?_))
  refine A5 rfl ?_
  refine A1 rfl (Y9 rfl (A0 rfl)) ?_
  refine A1 rfl (B1 2 rfl M8 rfl W3 (A0 rfl) rfl) ?_
  refine A1 rfl (B0 0 rfl (A0 rfl) rfl g9 rfl) ?_
  refine A1 rfl (AU5 rfl (A0 rfl) B6 (by decide) (by decide)) ?_
  refine A1 rfl (w_band rfl (A0 rfl) B6) ?_
  refine A1 rfl (l0 rfl (by kernel_rfl) P8 (A0 rfl)) ?_
  refine B5 rfl ?_
  refine A4 ?_
  refine C5 ?_
  (refine M3 [0] ((⟨c.p + 1, _⟩, _)) ?_ rfl (by first | (dsimp only; rfl) | rfl) (P7 rfl (B8 rfl (by first | rfl | (refine congrArg AV.bool ?_; simp_all; done)))); first | exact ⟨Nat.le_refl _, hzb⟩ | exact ⟨Nat.le_refl _, Int.le_refl 0, (show (0 : Int) ≤ 255 by decide)⟩ | (rw [AO5 (i4 _)]; exact ⟨Nat.le_refl _, i4 _⟩))
 intro h13
 have k13 := of_decide_eq_false h13; try simp only [A9] at k13
 refine C8 (A3 (A2 ?_))
 refine A5 rfl ?_
 refine A1 rfl (Y9 rfl (A0 rfl)) ?_
 refine A1 rfl (B1 1 rfl M8 rfl B4 (A0 rfl) rfl) ?_
 refine A1 rfl (B0 0 rfl (A0 rfl) rfl C2 rfl) ?_
 refine A1 rfl (G7 rfl (A0 rfl) B6 (by first | omega | (simp only [C9, A8, szR] at *; omega))) ?_
 refine A1 rfl (Y9 rfl (A0 rfl)) ?_
 refine A1 rfl (B1 1 rfl M8 rfl B4 (A0 rfl) rfl) ?_
 refine K3 0 rfl rfl rfl (A0 rfl) (A0 rfl) (K4 _ _) rfl B4 rfl ?_
 refine A4 (A3 (A2 ?_))
 refine A5 rfl ?_
 refine A5 rfl ?_
 refine A1 rfl (Y9 rfl (A0 rfl)) ?_
 refine A1 rfl (B1 2 rfl M8 rfl W3 (A0 rfl) rfl) ?_
 refine A1 rfl (B0 0 rfl (A0 rfl) rfl g9 rfl) ?_
 refine A1 rfl (w_mul rfl (A0 rfl) B6) ?_
 refine A5 rfl ?_
 refine A1 rfl (l0 rfl (by kernel_rfl) Tryz.underlying112 (A0 rfl)) ?_
 refine A1 rfl (AU4 rfl (A0 rfl) (A0 rfl)) ?_
 refine A1 rfl (AU4 rfl (A0 rfl) B6) ?_
 refine A1 rfl (Y9 rfl (A0 rfl)) ?_
 refine A1 rfl (B1 2 rfl M8 rfl W3 (A0 rfl) rfl) ?_
 refine K3 0 rfl rfl rfl (A0 rfl) (A0 rfl) (K4 _ _) rfl W3 rfl ?_
 refine A4 (A3 (A3 ?_))
 refine J5 (by kernel_rfl) (by kernel_rfl) rfl ?_
 refine B2 rfl rfl (B9 rfl (A0 rfl)) ?_
 refine B2 rfl rfl (Y9 rfl (A0 rfl)) ?_
 refine B2 rfl rfl (B1 1 rfl M8 rfl B4 (A0 rfl) rfl) ?_
 refine B2 rfl rfl (B0 0 rfl (A0 rfl) rfl C2 rfl) ?_
 refine B2 rfl rfl (B9 rfl (A0 rfl)) ?_
 refine B2 rfl rfl (Y9 rfl (A0 rfl)) ?_
 refine B2 rfl rfl (B1 0 rfl M8 rfl Tryz.sizeOf59 (A0 rfl) rfl) ?_
 refine B2 rfl rfl (B0 0 rfl (A0 rfl) rfl Tryz.isAgg59 rfl) ?_
 refine B2 rfl rfl (H2 rfl X4 (A0 rfl)) ?_
 refine B2 rfl rfl (V0 rfl (A0 rfl) (A0 rfl)) ?_
 refine P2 ?_
 refine C4 (A0 rfl) ?_ ?_
 ·intro h53
  have k53 := of_decide_eq_true h53; try simp only [A9] at k53
  refine A3 (A2 ?_)
  refine A5 rfl ?_
  refine B5 rfl ?_
  refine A4 ?_
  refine C5 ?_
  (refine M3 [0] ((⟨c.p + 1, _⟩, _)) ?_ rfl (by first | (dsimp only; rfl) | rfl) (P7 rfl (B8 rfl (by first | rfl | (refine congrArg AV.bool ?_; simp_all; done)))); first | exact ⟨Nat.le_refl _, hzb⟩ | exact ⟨Nat.le_refl _, Int.le_refl 0, (show (0 : Int) ≤ 255 by decide)⟩ | (rw [AO5 (i4 _)]; exact ⟨Nat.le_refl _, i4 _⟩))
 intro h53
 have k53 := of_decide_eq_false h53; try simp only [A9] at k53
 refine C8 (A3 (A2 ?_))
 refine A5 rfl ?_
 refine A1 rfl (Y9 rfl (A0 rfl)) ?_
 refine A1 rfl (B1 2 rfl M8 rfl W3 (A0 rfl) rfl) ?_
 refine A1 rfl (B0 0 rfl (A0 rfl) rfl g9 rfl) ?_
 refine A1 rfl (AU5 rfl (A0 rfl) B6 (by decide) (by decide)) ?_
 refine A1 rfl (w_band rfl (A0 rfl) B6) ?_
 refine A1 rfl (l0 rfl (by kernel_rfl) P8 (A0 rfl)) ?_
 refine B5 rfl ?_
 refine A4 ?_
 refine C5 ?_
 (refine M3 [0] ((⟨c.p + 1, _⟩, _)) ?_ rfl (by first | (dsimp only; rfl) | rfl) (P7 rfl (B8 rfl (by first | rfl | (refine congrArg AV.bool ?_; simp_all; done)))); first | exact ⟨Nat.le_refl _, hzb⟩ | exact ⟨Nat.le_refl _, Int.le_refl 0, (show (0 : Int) ≤ 255 by decide)⟩ | (rw [AO5 (i4 _)]; exact ⟨Nat.le_refl _, i4 _⟩))
theorem R4 (b : Nat) (code : List Int) (hcode : ByteL code) (c : TCur) (n : Int) (hn : n ≤ 1000000) (hp : c.p ≤ 7000000) : GSpec Tryz.prog 76 [AV.ptr b 0, AV.int n] [.box b 114 (curC code c)] (fun x : TCur × Int => x.1.p ≤ c.p + 2 ∧ 0 ≤ x.2 ∧ (x.2 < n ∨ x.2 = 0)) (fun x => [.box b 114 (curC code x.1)]) (fun x => AV.int x.2) := by
 refine I9 Tryz.func76 rfl Tryz.ntmps76 rfl ?_
 refine A3 (A2 ?_)
 refine A1 rfl (B7 rfl B6) ?_
 refine A4 (A3 (A3 (A2 ?_)))
 refine A5 rfl ?_
 refine A1 rfl (V0 rfl (A0 rfl) B6) ?_
 refine A4 ?_
 refine C4 (A0 rfl) ?_ ?_
 ·intro h7
  have k7 := of_decide_eq_true h7; try simp only [A9] at k7
  refine A3 (A2 ?_)
  refine A1 rfl (B7 rfl B6) ?_
  refine A4 ?_
  refine C5 ?_
  (refine M3 [0] ((_, _)) ?_ rfl (by first | (dsimp only; rfl) | rfl) (P7 rfl (B8 rfl (by first | rfl | (refine congrArg AV.bool ?_; simp_all; done)))); (dsimp only; first | omega | exact ⟨by omega, Int.tmod_nonneg _ (by omega), .inl (Int.tmod_lt_of_pos _ (by omega))⟩))
 intro h7
 have k7 := of_decide_eq_false h7; try simp only [A9] at k7
 refine C8 (A3 (A2 ?_))
 refine A5 rfl ?_
 refine J9 [0] rfl rfl rfl rfl Tryz.call117 rfl (AQ2 _ _ hcode _ (by omega)) (A7 (A0 rfl) C6) rfl ?_
 intro x9 ok9
 refine B5 rfl ?_
 refine A4 (A3 (A3 (A2 ?_)))
 refine A5 rfl ?_
 refine A1 rfl (O8 rfl (A0 rfl) B6) ?_
 refine A4 ?_
 refine C4 (A0 rfl) ?_ ?_
 ·intro h11
  have k11 := of_decide_eq_true h11; try simp only [A9] at k11
  refine A2 ?_
  refine A5 rfl ?_
  refine A1 rfl (w_muli rfl (A0 rfl) B6 (by first | omega | (simp only [C9, A8, szR] at *; omega))) ?_
  refine A5 rfl ?_
  refine J9 [0] rfl rfl rfl rfl Tryz.call117 rfl (AQ2 _ _ hcode _ (by omega)) (A7 (A0 rfl) C6) rfl ?_
  intro x15 ok15
  refine A1 rfl (G7 rfl (A0 rfl) (A0 rfl) (by first | omega | (simp only [C9, A8, szR] at *; omega))) ?_
  refine B5 rfl ?_
  refine A4 (A3 (A2 ?_))
  refine A5 rfl ?_
  refine A5 rfl ?_
  refine A1 rfl (w_rem rfl (A0 rfl) (A0 rfl) (by omega)) ?_
  refine B5 rfl ?_
  refine A4 ?_
  refine C5 ?_
  (refine M3 [0] ((_, _)) ?_ rfl (by first | (dsimp only; rfl) | rfl) (P7 rfl (B8 rfl (by first | rfl | (refine congrArg AV.bool ?_; simp_all; done)))); (dsimp only; first | omega | exact ⟨by omega, Int.tmod_nonneg _ (by omega), .inl (Int.tmod_lt_of_pos _ (by omega))⟩))
 intro h11
 have k11 := of_decide_eq_false h11; try simp only [A9] at k11
 refine C8 (A3 (A2 ?_))
 refine A5 rfl ?_
 refine A5 rfl ?_
 refine A1 rfl (w_rem rfl (A0 rfl) (A0 rfl) (by omega)) ?_
 refine B5 rfl ?_
 refine A4 ?_
 refine C5 ?_
 (refine M3 [0] ((_, _)) ?_ rfl (by first | (dsimp only; rfl) | rfl) (P7 rfl (B8 rfl (by first | rfl | (refine congrArg AV.bool ?_; simp_all; done)))); (dsimp only; first | omega | exact ⟨by omega, Int.tmod_nonneg _ (by omega), .inl (Int.tmod_lt_of_pos _ (by omega))⟩))
theorem r4 (b : Nat) (code : List Int) (hcode : ByteL code) (c : TCur) (n : Int) (hn : n ≤ 1000000) (hp : c.p ≤ 7000000) : GSpec Tryz.prog 114 [AV.ptr b 0, AV.int n] [.box b 114 (curC code c)] (fun x : TCur × Bool => x.1.p ≤ c.p + 2) (fun x => [.box b 114 (curC code x.1)]) (fun x => AV.bool x.2) := by
 refine I9 Tryz.func114 rfl Tryz.ntmps114 rfl ?_
 refine A3 (A2 ?_)
 refine A1 rfl (B7 rfl F8) ?_
 refine A4 (A3 (A2 ?_))
 refine A5 rfl ?_
 refine A5 rfl ?_
 refine J9 [0] rfl rfl rfl rfl Tryz.call76 rfl (R4 _ _ hcode _ _ (by omega) (by omega)) (A7 (A0 rfl) (A7 (A0 rfl) C6)) rfl ?_
 intro x7 ok7
 refine A1 rfl (O7 rfl (A0 rfl) B6) ?_
 refine B5 rfl ?_
 refine A4 ?_
 refine C5 ?_
 (refine M3 [0] ((_, _)) ?_ rfl (by first | (dsimp only; rfl) | rfl) (P7 rfl (B8 rfl (by rfl))); exact ok7.1)
theorem Ae5 (b : Nat) (code : List Int) (hcode : ByteL code) (c : TCur) (l : List Str) (hl : (∀ s ∈ l, s.length ≤ 64) ∧ 1 ≤ l.length ∧ l.length ≤ 1000) (hp : c.p ≤ 7000000) : GSpec Tryz.prog 211 [AV.ptr b 0, strs l] [.box b 114 (curC code c)] (fun x : TCur × Str => x.1.p ≤ c.p + 2 ∧ x.2.length ≤ 64) (fun x => [.box b 114 (curC code x.1)]) (fun x => AV.str x.2) := by
 obtain ⟨hls, hl1, hl2⟩ := hl
 refine I9 Tryz.func211 rfl Tryz.ntmps211 rfl ?_
 refine A3 (A2 ?_)
 refine A1 rfl (B7 rfl (R9 (l := []) rfl)) ?_
 refine A4 (A3 (A2 ?_))
 refine A5 rfl ?_
 refine A5 rfl ?_
 refine A5 rfl ?_
 refine A1 rfl (H2 rfl E7 (A0 rfl)) ?_
 refine J9 [0] rfl rfl rfl rfl Tryz.call76 rfl (R4 _ _ hcode _ _ (by simp only [A9]; omega) (by omega)) (A7 (A0 rfl) (A7 (A0 rfl) C6)) rfl ?_
 intro x9 ok9
 simp only [A9] at ok9
 obtain ⟨y, hy⟩ := get_some (show x9.2.toNat < l.length by omega)
 refine A1 rfl (J4 rfl E7 E5 (A0 rfl) (A0 rfl) hy (by omega)) ?_
 refine A1 rfl (N9 rfl (A0 rfl) F7 rfl) ?_
 refine B5 rfl ?_
 refine A4 ?_
 refine C5 ?_
 (refine M3 [0] ((_, _)) ?_ rfl (by first | (dsimp only; rfl) | rfl) (P7 rfl (B8 rfl (by rfl))); exact ⟨ok9.1, hls _ (G2 hy)⟩)
theorem m1 (b : Nat) (code : List Int) (hcode : ByteL code) (c : TCur) (l : List Int) (hl : 1 ≤ l.length ∧ l.length ≤ 1000) (hp : c.p ≤ 7000000) : GSpec Tryz.prog 74 [AV.ptr b 0, ints l] [.box b 114 (curC code c)] (fun x : TCur × Int => x.1.p ≤ c.p + 2 ∧ x.2 ∈ l) (fun x => [.box b 114 (curC code x.1)]) (fun x => AV.int x.2) := by
 obtain ⟨hl1, hl2⟩ := hl
 refine I9 Tryz.func74 rfl Tryz.ntmps74 rfl ?_
 refine A3 (A2 ?_)
 refine A1 rfl (B7 rfl B6) ?_
 refine A4 (A3 (A2 ?_))
 refine A5 rfl ?_
 refine A5 rfl ?_
 refine A5 rfl ?_
 refine A1 rfl (H2 rfl T3 (A0 rfl)) ?_
 refine J9 [0] rfl rfl rfl rfl Tryz.call76 rfl (R4 _ _ hcode _ _ (by simp only [A9]; omega) (by omega)) (A7 (A0 rfl) (A7 (A0 rfl) C6)) rfl ?_
 intro x9 ok9
 simp only [A9] at ok9
 obtain ⟨y, hy⟩ := get_some (show x9.2.toNat < l.length by omega)
 refine A1 rfl (J4 rfl T3 B4 (A0 rfl) (A0 rfl) hy (by omega)) ?_
 refine A1 rfl (N9 rfl (A0 rfl) C2 rfl) ?_
 refine B5 rfl ?_
 refine A4 ?_
 refine C5 ?_
 (refine M3 [0] ((_, _)) ?_ rfl (by first | (dsimp only; rfl) | rfl) (P7 rfl (B8 rfl (by rfl))); exact ⟨ok9.1, G2 hy⟩)
theorem Av8 (b : Nat) (code : List Int) (hcode : ByteL code) (c : TCur) (hp : c.p ≤ 6000000) : GSpec Tryz.prog 170 [AV.ptr b 0] [.box b 114 (curC code c)] (fun x : TCur × Str => x.1.p ≤ c.p + 2 ∧ x.2.length ≤ 64) (fun x => [.box b 114 (curC code x.1)]) (fun x => AV.str x.2) := by
 refine I9 Tryz.func170 rfl Tryz.ntmps170 rfl ?_
 refine A3 (A2 ?_)
 refine A1 rfl (B7 rfl (R9 (l := []) rfl)) ?_
 refine A4 (A3 (A2 ?_))
 refine A5 rfl ?_
 refine A1 rfl (L2 rfl E7 E5 Tryz.zeroValue9 rfl rfl rfl rfl (D3 (R9 (l := [97]) rfl) (O5 _) (D3 (R9 (l := [98]) rfl) (O5 _) (D3 (R9 (l := [99]) rfl) (O5 _) (D3 (R9 (l := [109]) rfl) (O5 _) (D3 (R9 (l := [110]) rfl) (O5 _) (D3 (R9 (l := [122]) rfl) (O5 _) (D3 (R9 (l := [114, 47, 49]) rfl) (O5 _) (D3 (R9 (l := [105, 47, 120, 47, 49]) rfl) (O5 _) I2)))))))) rfl rfl) ?_
 refine J9 [0] rfl rfl rfl rfl Tryz.call211 rfl (Ae5 _ _ hcode _ ([[97], [98], [99], [109], [110], [122], [114, 47, 49], [105, 47, 120, 47, 49]] : List Str) (by decide) (by omega)) (A7 (A0 rfl) (A7 (A0 rfl) C6)) rfl ?_
 intro x5 ok5
 refine B5 rfl ?_
 refine A4 ?_
 refine C5 ?_
 (refine M3 [0] ((_, _)) ?_ rfl (by first | (dsimp only; rfl) | rfl) (P7 rfl (B8 rfl (by rfl))); exact ok5)
end Go.Proofs.YtkegepoihkhihaaGreat

namespace Go.Proofs.YtkegepoihkhihaaGreat
open Go Go.AV Go.M
attribute [local irreducible] OpW OpA OpS AWP FSpec ESpec GSpec OpE RetOk RetOkG RvDen Le Ev GuardIs SrcIs
end Go.Proofs.YtkegepoihkhihaaGreat

namespace Go.Proofs.YtkegepoihkhihaaGreat
open Go Go.AV Go.M
attribute [local irreducible] OpW OpA OpS AWP FSpec ESpec GSpec OpE RetOk RetOkG RvDen Le Ev GuardIs SrcIs Int.tmod Int.tdiv IntKind.wrap bandI
end Go.Proofs.YtkegepoihkhihaaGreat
