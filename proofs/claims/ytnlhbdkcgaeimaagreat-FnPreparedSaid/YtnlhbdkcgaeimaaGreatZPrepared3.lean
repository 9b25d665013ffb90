/- Texts of the claim, part 3. -/
import Derived.Test.YtnlhbdkcgaeimaaGreatRows
import Derived.Laws.BytesArg
import Derived.Test.YtnlhbdkcgaeimaaGreatZPrepared2

set_option linter.unusedVariables false
set_option linter.unusedSimpArgs false
set_option maxRecDepth 100000
namespace Go.Proofs.YtnlhbdkcgaeimaaGreat
open Go Go.AV Go.M
attribute [local irreducible] OpW OpA OpS AWP FSpec ESpec RetOk RvDen Le Ev GuardIs
theorem AK2 (l : List TWrite) (pre : TWrite → Prop) (f : TWrite → Bool) (hp : ∀ x ∈ l, pre x) : FSpec Tryz.prog 245 [AV.list 3 (l.map TWrite.cs), AV.fun1 Tryz.prog pre (fun a => AV.agg a.cs) (fun a => AV.bool (f a))] (AV.int (idxFrom f l 0)) := by
 refine E7 Tryz.func245 rfl Tryz.ntmps245 rfl ?_
 refine U9 (t := 0) rfl fun hl => ?_
 try simp only [A6] at hl
 refine A3 (A2 ?_)
 refine A1 rfl rfl rfl (C0 rfl C2) ?_
 refine A4 (A3 (A3 (A2 ?_)))
 refine A5 rfl rfl rfl rfl rfl ?_
 refine A1 rfl rfl rfl (I5 rfl F7 (A0 rfl)) ?_
 refine A1 rfl rfl rfl (C6 rfl C2) ?_
 refine A4 (E1 ?_)
 refine K8 [(0, _), (1, _), (7, _)] _ (fun (i : Nat) => i ≤ l.length ∧ idxFrom f l 0 = idxFrom f (l.drop i) i) (fun (i : Nat) => []) (fun (i : Nat) => [(8, AV.int i)]) (fun (i : Nat) => l.length - i) (0) ?_ (L0 ⟨rfl, rfl, rfl, rfl, trivial⟩) ?_
 ·exact ⟨Nat.zero_le _, rfl⟩
 intro i hinv
 refine A3 (A2 ?_)
 refine A1 rfl rfl rfl (L4 rfl (A0 rfl) (A0 rfl)) ?_
 refine A4 (A3 ?_)
 refine C8 (A0 rfl) ?_ ?_
 ·intro h9
  have k9 := of_decide_eq_true h9; try simp only [A6] at k9
  have hlt : i < l.length := by omega
  obtain ⟨x, hx⟩ := get_some hlt
  refine D2 (A3 (E1 (A3 (A2 ?_))))
  refine A5 rfl rfl rfl rfl rfl ?_
  refine B5 rfl rfl rfl rfl rfl ?_
  refine A4 (A3 (A2 ?_))
  refine A5 rfl rfl rfl rfl rfl ?_
  refine A5 rfl rfl rfl rfl rfl ?_
  refine A5 rfl rfl rfl rfl rfl ?_
  refine A1 rfl rfl rfl (K0 rfl F7 H4 (A0 rfl) (A0 rfl) hx (by first | omega | (simp only [A6, A8, B2, B6, A9, szR] at *; omega))) ?_
  refine A1 rfl rfl rfl (L8 rfl (A0 rfl) S5 H4) ?_
  refine A1 rfl rfl rfl (Ag9 rfl (A0 rfl) x (hp x (G2 hx)) (A0 rfl)) ?_
  refine A4 ?_
  refine C8 (A0 rfl) ?_ ?_
  ·intro h16
   refine A3 (A2 ?_)
   refine A5 rfl rfl rfl rfl rfl ?_
   refine B5 rfl rfl rfl rfl rfl ?_
   refine A4 ?_
   refine C7 ?_
   exact I2 rfl (C3 rfl (by first | exact congrArg AV.int (by rw [hinv.2, drop_some hx, idxFrom, h16]; rfl) | exact congrArg AV.int (by rw [hinv.2, List.drop_eq_nil_of_le hge]; rfl)))
  ·intro h16
   refine D2 (A2 ?_)
   refine A1 rfl rfl rfl (H0 rfl (A0 rfl) C2 (by first | omega | (simp only [A6, A8, B2, B6, A9, szR] at *; omega))) ?_
   refine A5 rfl rfl rfl rfl rfl ?_
   refine A4 ?_
   refine N0 i (i + 1) ?_ ?_ (L0 ⟨rfl, rfl, rfl, rfl, trivial⟩)
   ·exact ⟨by omega, by rw [hinv.2, drop_some hx, idxFrom, h16]; simp⟩
   ·omega
 ·intro h9
  have k9 := of_decide_eq_false h9; try simp only [A6] at k9
  have hge : l.length ≤ i := by omega
  refine I1 ?_
  refine A3 (A2 ?_)
  refine A1 rfl rfl rfl (C0 rfl C2) ?_
  refine A4 ?_
  refine C7 ?_
  exact I2 rfl (C3 rfl (by first | exact congrArg AV.int (by rw [hinv.2, drop_some hx, idxFrom, h16]; rfl) | exact congrArg AV.int (by rw [hinv.2, List.drop_eq_nil_of_le hge]; rfl)))
theorem f6 (l : List TWrite) (pre : TWrite → Prop) (f : TWrite → Bool) (hp : ∀ x ∈ l, pre x) : FSpec Tryz.prog 186 [AV.list 3 (l.map TWrite.cs), AV.fun1 Tryz.prog pre (fun a => AV.agg a.cs) (fun a => AV.bool (f a))] (AV.bool (l.any f)) := by
 refine E7 Tryz.func186 rfl Tryz.ntmps186 rfl ?_
 refine A3 (A2 ?_)
 refine A1 rfl rfl rfl (C0 rfl F3) ?_
 refine A4 (A3 (A2 ?_))
 refine A5 rfl rfl rfl rfl rfl ?_
 refine A5 rfl rfl rfl rfl rfl ?_
 refine A1 rfl rfl rfl (E5 rfl Tryz.call245 rfl (AK2 _ _ _ (by first | (intros; trivial) | assumption | (intros; first | trivial | (simp_all; done)))) (A7 (A0 rfl) (A7 (A0 rfl) C9))) ?_
 refine A1 rfl rfl rfl (d7 rfl (A0 rfl) C2) ?_
 refine B5 rfl rfl rfl rfl rfl ?_
 refine A4 ?_
 refine C7 ?_
 exact I2 rfl (C3 rfl (by exact congrArg AV.bool (u4 f l 0 (Int.le_refl 0))))
theorem AM4 (l : List THeld) (pre : THeld → Prop) (f : THeld → Bool) (hp : ∀ x ∈ l, pre x) : FSpec Tryz.prog 243 [AV.list 5 (l.map THeld.cs), AV.fun1 Tryz.prog pre (fun a => AV.agg a.cs) (fun a => AV.bool (f a))] (AV.int (idxFrom f l 0)) := by
 refine E7 Tryz.func243 rfl Tryz.ntmps243 rfl ?_
 refine U9 (t := 0) rfl fun hl => ?_
 try simp only [A6] at hl
 refine A3 (A2 ?_)
 refine A1 rfl rfl rfl (C0 rfl C2) ?_
 refine A4 (A3 (A3 (A2 ?_)))
 refine A5 rfl rfl rfl rfl rfl ?_
 refine A1 rfl rfl rfl (I5 rfl D0 (A0 rfl)) ?_
 refine A1 rfl rfl rfl (C6 rfl C2) ?_
 refine A4 (E1 ?_)
 refine K8 [(0, _), (1, _), (7, _)] _ (fun (i : Nat) => i ≤ l.length ∧ idxFrom f l 0 = idxFrom f (l.drop i) i) (fun (i : Nat) => []) (fun (i : Nat) => [(8, AV.int i)]) (fun (i : Nat) => l.length - i) (0) ?_ (L0 ⟨rfl, rfl, rfl, rfl, trivial⟩) ?_
 ·exact ⟨Nat.zero_le _, rfl⟩
 intro i hinv
 refine A3 (A2 ?_)
 refine A1 rfl rfl rfl (L4 rfl (A0 rfl) (A0 rfl)) ?_
 refine A4 (A3 ?_)
 refine C8 (A0 rfl) ?_ ?_
 ·intro h9
  have k9 := of_decide_eq_true h9; try simp only [A6] at k9
  have hlt : i < l.length := by omega
  obtain ⟨x, hx⟩ := get_some hlt
  refine D2 (A3 (E1 (A3 (A2 ?_))))
  refine A5 rfl rfl rfl rfl rfl ?_
  refine B5 rfl rfl rfl rfl rfl ?_
  refine A4 (A3 (A2 ?_))
  refine A5 rfl rfl rfl rfl rfl ?_
  refine A5 rfl rfl rfl rfl rfl ?_
  refine A5 rfl rfl rfl rfl rfl ?_
  refine A1 rfl rfl rfl (K0 rfl D0 D3 (A0 rfl) (A0 rfl) hx (by first | omega | (simp only [A6, A8, B2, B6, A9, szR] at *; omega))) ?_
  refine A1 rfl rfl rfl (L8 rfl (A0 rfl) H8 D3) ?_
  refine A1 rfl rfl rfl (Ag9 rfl (A0 rfl) x (hp x (G2 hx)) (A0 rfl)) ?_
  refine A4 ?_
  refine C8 (A0 rfl) ?_ ?_
  ·intro h16
   refine A3 (A2 ?_)
   refine A5 rfl rfl rfl rfl rfl ?_
   refine B5 rfl rfl rfl rfl rfl ?_
   refine A4 ?_
   refine C7 ?_
   exact I2 rfl (C3 rfl (by first | exact congrArg AV.int (by rw [hinv.2, drop_some hx, idxFrom, h16]; rfl) | exact congrArg AV.int (by rw [hinv.2, List.drop_eq_nil_of_le hge]; rfl)))
  ·intro h16
   refine D2 (A2 ?_)
   refine A1 rfl rfl rfl (H0 rfl (A0 rfl) C2 (by first | omega | (simp only [A6, A8, B2, B6, A9, szR] at *; omega))) ?_
   refine A5 rfl rfl rfl rfl rfl ?_
   refine A4 ?_
   refine N0 i (i + 1) ?_ ?_ (L0 ⟨rfl, rfl, rfl, rfl, trivial⟩)
   ·exact ⟨by omega, by rw [hinv.2, drop_some hx, idxFrom, h16]; simp⟩
   ·omega
 ·intro h9
  have k9 := of_decide_eq_false h9; try simp only [A6] at k9
  have hge : l.length ≤ i := by omega
  refine I1 ?_
  refine A3 (A2 ?_)
  refine A1 rfl rfl rfl (C0 rfl C2) ?_
  refine A4 ?_
  refine C7 ?_
  exact I2 rfl (C3 rfl (by first | exact congrArg AV.int (by rw [hinv.2, drop_some hx, idxFrom, h16]; rfl) | exact congrArg AV.int (by rw [hinv.2, List.drop_eq_nil_of_le hge]; rfl)))
theorem q8 (l : List THeld) (pre : THeld → Prop) (f : THeld → Bool) (hp : ∀ x ∈ l, pre x) : FSpec Tryz.prog 183 [AV.list 5 (l.map THeld.cs), AV.fun1 Tryz.prog pre (fun a => AV.agg a.cs) (fun a => AV.bool (f a))] (AV.bool (l.any f)) := by
 refine E7 Tryz.func183 rfl Tryz.ntmps183 rfl ?_
 refine A3 (A2 ?_)
 refine A1 rfl rfl rfl (C0 rfl F3) ?_
 refine A4 (A3 (A2 ?_))
 refine A5 rfl rfl rfl rfl rfl ?_
 refine A5 rfl rfl rfl rfl rfl ?_
 refine A1 rfl rfl rfl (E5 rfl Tryz.call243 rfl (AM4 _ _ _ (by first | (intros; trivial) | assumption | (intros; first | trivial | (simp_all; done)))) (A7 (A0 rfl) (A7 (A0 rfl) C9))) ?_
 refine A1 rfl rfl rfl (d7 rfl (A0 rfl) C2) ?_
 refine B5 rfl rfl rfl rfl rfl ?_
 refine A4 ?_
 refine C7 ?_
 exact I2 rfl (C3 rfl (by exact congrArg AV.bool (u4 f l 0 (Int.le_refl 0))))
theorem AE6 (l : List TWrite) (v : Str) (pre : TWrite → Str → Prop) (hp : ∀ x ∈ l, pre x v) (f : TWrite → Str → Int) (hl2 : l.length ≤ 4611686018427387903) : FSpec Tryz.prog 267 [AV.list 3 (l.map TWrite.cs), AV.str v, AV.fun2 Tryz.prog pre (fun a => AV.agg a.cs) (fun b => AV.str b) (fun a b => AV.int (f a b))] (AV.tup [AV.int (bs (fun x => f x v) l 0 l.length), AV.bool (bsAt (fun x => f x v) l (bs (fun x => f x v) l 0 l.length))]) := by
 refine E7 Tryz.func267 rfl Tryz.ntmps267 rfl ?_
 refine U9 (t := 0) rfl fun hl => ?_
 try simp only [A6] at hl
 refine A3 (A2 ?_)
 refine A1 rfl rfl rfl (C0 rfl C2) ?_
 refine A1 rfl rfl rfl (C0 rfl F3) ?_
 refine A4 (A3 (A2 ?_))
 refine A5 rfl rfl rfl rfl rfl ?_
 refine A1 rfl rfl rfl (I5 rfl F7 (A0 rfl)) ?_
 refine B5 rfl rfl rfl rfl rfl ?_
 refine A4 (A3 (A2 ?_))
 refine A5 rfl rfl rfl rfl rfl ?_
 refine A1 rfl rfl rfl (C0 rfl C2) ?_
 refine B5 rfl rfl rfl rfl rfl ?_
 refine A4 (A3 (E1 ?_))
 refine T3 [(0, _), (1, _), (2, _), (6, _), (7, _), (8, _)] _ (fun (i : Nat) (j : Nat) => i ≤ j ∧ j ≤ l.length ∧ bs (fun x => f x v) l 0 l.length = bs (fun x => f x v) l i j) (fun (i : Nat) (j : Nat) => []) (fun (i : Nat) (j : Nat) => [(9, AV.int i), (10, AV.int j)]) (fun (i : Nat) (j : Nat) => j - i) (0) ((l.map TWrite.cs).length) ?_ (L0 ⟨rfl, rfl, rfl, rfl, rfl, rfl, rfl, rfl, trivial⟩) ?_
 ·exact ⟨Nat.zero_le _, by simp, by simp⟩
 intro i j hinv
 refine A3 (A3 (A2 ?_))
 refine A5 rfl rfl rfl rfl rfl ?_
 refine A5 rfl rfl rfl rfl rfl ?_
 refine A1 rfl rfl rfl (L4 rfl (A0 rfl) (A0 rfl)) ?_
 refine A4 ?_
 refine C8 (A0 rfl) ?_ ?_
 ·intro h17
  have k17 := of_decide_eq_true h17; try simp only [A6] at k17
  have hlt : i < j := by omega
  obtain ⟨x, hx⟩ := get_some (show (i + j) / 2 < l.length by omega)
  refine D2 (E1 (A3 (A2 ?_)))
  refine A5 rfl rfl rfl rfl rfl ?_
  refine A5 rfl rfl rfl rfl rfl ?_
  refine A1 rfl rfl rfl (H0 rfl (A0 rfl) (A0 rfl) (by omega)) ?_
  refine A1 rfl rfl rfl (f8 rfl (by kernel_rfl) Tryz.underlying253 (A0 rfl)) ?_
  refine A1 rfl rfl rfl (AN8 rfl (A0 rfl) C2 (by decide) (by decide)) ?_
  refine A1 rfl rfl rfl (f8 rfl (by kernel_rfl) S2 (A0 rfl)) ?_
  refine B5 rfl rfl rfl rfl rfl ?_
  refine A4 (A3 (A2 ?_))
  rw [AO6 (by omega)]
  refine A5 rfl rfl rfl rfl rfl ?_
  refine A5 rfl rfl rfl rfl rfl ?_
  refine A5 rfl rfl rfl rfl rfl ?_
  refine A1 rfl rfl rfl (K0 rfl F7 H4 (A0 rfl) (A0 rfl) hx (by first | omega | (simp only [A6, A8, B2, B6, A9, szR] at *; omega))) ?_
  refine A1 rfl rfl rfl (L8 rfl (A0 rfl) S5 H4) ?_
  refine A5 rfl rfl rfl rfl rfl ?_
  refine A1 rfl rfl rfl (l5 rfl (A0 rfl) x v (hp x (G2 hx)) (A0 rfl) (A0 rfl)) ?_
  refine A1 rfl rfl rfl (L4 rfl (A0 rfl) C2) ?_
  refine A4 ?_
  refine C8 (A0 rfl) ?_ ?_
  ·intro h31
   have k31 := of_decide_eq_true h31; try simp only [A6] at k31
   refine A2 ?_
   refine A5 rfl rfl rfl rfl rfl ?_
   refine A1 rfl rfl rfl (H0 rfl (A0 rfl) C2 (by first | omega | (simp only [A6, A8, B2, B6, A9, szR] at *; omega))) ?_
   refine B5 rfl rfl rfl rfl rfl ?_
   refine A4 ?_
   refine j3 ?_
   refine R6 i j ((i + j) / 2 + 1) (j) ?_ ?_ (L0 ⟨rfl, rfl, rfl, rfl, rfl, rfl, rfl, rfl, trivial⟩)
   ·exact ⟨by omega, by omega, by rw [hinv.2.2, AO4 hlt hx k31]⟩
   ·omega
  ·intro h31
   have k31 := of_decide_eq_false h31; try simp only [A6] at k31
   refine A2 ?_
   refine A5 rfl rfl rfl rfl rfl ?_
   refine B5 rfl rfl rfl rfl rfl ?_
   refine A4 ?_
   refine j3 ?_
   refine R6 i j (i) ((i + j) / 2) ?_ ?_ (L0 ⟨rfl, rfl, rfl, rfl, rfl, rfl, rfl, rfl, trivial⟩)
   ·exact ⟨by omega, by omega, by rw [hinv.2.2, AO5 hlt hx k31]⟩
   ·omega
 ·intro h17
  have k17 := of_decide_eq_false h17; try simp only [A6] at k17
  have hge : bs (fun x => f x v) l 0 l.length = i := by rw [hinv.2.2, AF2 (by omega)]
  obtain ⟨y, hy⟩ := AB1 l i
  refine I1 ?_
  refine A3 (A2 ?_)
  refine A5 rfl rfl rfl rfl rfl ?_
  refine A5 rfl rfl rfl rfl rfl ?_
  refine A5 rfl rfl rfl rfl rfl ?_
  refine A1 rfl rfl rfl (L4 rfl (A0 rfl) (A0 rfl)) ?_
  refine A5 rfl rfl rfl rfl rfl ?_
  refine B1 rfl rfl (B9 rfl rfl rfl) (fun hc => C6 rfl (A0 rfl)) ?_
  refine B1 rfl rfl (B9 rfl rfl rfl) (fun hc => C6 rfl (A0 rfl)) ?_
  refine B1 rfl rfl (B9 rfl rfl rfl) (fun hc => C6 rfl (A0 rfl)) ?_
  refine B1 rfl rfl (B9 rfl rfl rfl) (fun hc => K0 rfl F7 H4 (B0 rfl hc) (B0 rfl hc) (hy (by first | omega | ((try simp only [A6, A8, B2, B6, A9, szR] at *); omega) | (have hc2 := hc; simp only [Bool.and_eq_true, Bool.or_eq_true, Bool.or_eq_false_iff, Bool.and_eq_false_iff, Bool.not_eq_true', Bool.not_eq_false', decide_eq_true_eq, decide_eq_false_iff_not, beq_iff_eq, bne_iff_ne, A6, A8] at hc2; omega))) rfl) ?_
  refine B1 rfl rfl (B9 rfl rfl rfl) (fun hc => L8 rfl (B0 rfl hc) S5 H4) ?_
  refine B1 rfl rfl (B9 rfl rfl rfl) (fun hc => C6 rfl (A0 rfl)) ?_
  refine B1 rfl rfl (B9 rfl rfl rfl) (fun hc => l5 rfl (B0 rfl hc) y v (hp y (G2 (hy (by first | omega | ((try simp only [A6, A8, B2, B6, A9, szR] at *); omega) | (have hc2 := hc; simp only [Bool.and_eq_true, Bool.or_eq_true, Bool.or_eq_false_iff, Bool.and_eq_false_iff, Bool.not_eq_true', Bool.not_eq_false', decide_eq_true_eq, decide_eq_false_iff_not, beq_iff_eq, bne_iff_ne, A6, A8] at hc2; omega))))) (B0 rfl hc) (B0 rfl hc)) ?_
  refine B1 rfl rfl (B9 rfl rfl rfl) (fun hc => M0 rfl (B0 rfl hc) C2) ?_
  refine A1 rfl rfl rfl (I3 rfl (A0 rfl) (G0 rfl)) ?_
  refine B5 rfl rfl rfl rfl rfl ?_
  refine B5 rfl rfl rfl rfl rfl ?_
  refine A4 ?_
  refine C7 ?_
  exact U3 rfl (by decide) (E4 (C3 rfl (by first | exact congrArg AV.int (by rw [hge]) | exact congrArg AV.bool (by rw [hge]; unfold bsAt; simp only [A6]; cases Nat.lt_or_ge i l.length with | inl hi => (rw [hy hi]; simp [hi]) | inr hi => (rw [List.getElem?_eq_none (by omega)]; simp only [decide_eq_false (show ¬ ((i : Int) < (l.length : Int)) by omega), Bool.false_and])))) (E4 (C3 rfl (by first | exact congrArg AV.int (by rw [hge]) | exact congrArg AV.bool (by rw [hge]; unfold bsAt; simp only [A6]; cases Nat.lt_or_ge i l.length with | inl hi => (rw [hy hi]; simp [hi]) | inr hi => (rw [List.getElem?_eq_none (by omega)]; simp only [decide_eq_false (show ¬ ((i : Int) < (l.length : Int)) by omega), Bool.false_and])))) J0))
theorem AF4 (l : List TCell) (v : Str) (pre : TCell → Str → Prop) (hp : ∀ x ∈ l, pre x v) (f : TCell → Str → Int) (hl2 : l.length ≤ 4611686018427387903) : FSpec Tryz.prog 248 [AV.list 2 (l.map TCell.cs), AV.str v, AV.fun2 Tryz.prog pre (fun a => AV.agg a.cs) (fun b => AV.str b) (fun a b => AV.int (f a b))] (AV.tup [AV.int (bs (fun x => f x v) l 0 l.length), AV.bool (bsAt (fun x => f x v) l (bs (fun x => f x v) l 0 l.length))]) := by
 refine E7 Tryz.func248 rfl Tryz.ntmps248 rfl ?_
 refine U9 (t := 0) rfl fun hl => ?_
 try simp only [A6] at hl
 refine A3 (A2 ?_)
 refine A1 rfl rfl rfl (C0 rfl C2) ?_
 refine A1 rfl rfl rfl (C0 rfl F3) ?_
 refine A4 (A3 (A2 ?_))
 refine A5 rfl rfl rfl rfl rfl ?_
 refine A1 rfl rfl rfl (I5 rfl D6 (A0 rfl)) ?_
 refine B5 rfl rfl rfl rfl rfl ?_
 refine A4 (A3 (A2 ?_))
 refine A5 rfl rfl rfl rfl rfl ?_
 refine A1 rfl rfl rfl (C0 rfl C2) ?_
 refine B5 rfl rfl rfl rfl rfl ?_
 refine A4 (A3 (E1 ?_))
 refine T3 [(0, _), (1, _), (2, _), (6, _), (7, _), (8, _)] _ (fun (i : Nat) (j : Nat) => i ≤ j ∧ j ≤ l.length ∧ bs (fun x => f x v) l 0 l.length = bs (fun x => f x v) l i j) (fun (i : Nat) (j : Nat) => []) (fun (i : Nat) (j : Nat) => [(9, AV.int i), (10, AV.int j)]) (fun (i : Nat) (j : Nat) => j - i) (0) ((l.map TCell.cs).length) ?_ (L0 ⟨rfl, rfl, rfl, rfl, rfl, rfl, rfl, rfl, trivial⟩) ?_
 ·exact ⟨Nat.zero_le _, by simp, by simp⟩
 intro i j hinv
 refine A3 (A3 (A2 ?_))
 refine A5 rfl rfl rfl rfl rfl ?_
 refine A5 rfl rfl rfl rfl rfl ?_
 refine A1 rfl rfl rfl (L4 rfl (A0 rfl) (A0 rfl)) ?_
 refine A4 ?_
 refine C8 (A0 rfl) ?_ ?_
 ·intro h17
  have k17 := of_decide_eq_true h17; try simp only [A6] at k17
  have hlt : i < j := by omega
  obtain ⟨x, hx⟩ := get_some (show (i + j) / 2 < l.length by omega)
  refine D2 (E1 (A3 (A2 ?_)))
  refine A5 rfl rfl rfl rfl rfl ?_
  refine A5 rfl rfl rfl rfl rfl ?_
  refine A1 rfl rfl rfl (H0 rfl (A0 rfl) (A0 rfl) (by omega)) ?_
  refine A1 rfl rfl rfl (f8 rfl (by kernel_rfl) Tryz.underlying253 (A0 rfl)) ?_
  refine A1 rfl rfl rfl (AN8 rfl (A0 rfl) C2 (by decide) (by decide)) ?_
  refine A1 rfl rfl rfl (f8 rfl (by kernel_rfl) S2 (A0 rfl)) ?_
  refine B5 rfl rfl rfl rfl rfl ?_
  refine A4 (A3 (A2 ?_))
  rw [AO6 (by omega)]
  refine A5 rfl rfl rfl rfl rfl ?_
  refine A5 rfl rfl rfl rfl rfl ?_
  refine A5 rfl rfl rfl rfl rfl ?_
  refine A1 rfl rfl rfl (K0 rfl D6 F2 (A0 rfl) (A0 rfl) hx (by first | omega | (simp only [A6, A8, B2, B6, A9, szR] at *; omega))) ?_
  refine A1 rfl rfl rfl (L8 rfl (A0 rfl) T2 F2) ?_
  refine A5 rfl rfl rfl rfl rfl ?_
  refine A1 rfl rfl rfl (l5 rfl (A0 rfl) x v (hp x (G2 hx)) (A0 rfl) (A0 rfl)) ?_
  refine A1 rfl rfl rfl (L4 rfl (A0 rfl) C2) ?_
  refine A4 ?_
  refine C8 (A0 rfl) ?_ ?_
  ·intro h31
   have k31 := of_decide_eq_true h31; try simp only [A6] at k31
   refine A2 ?_
   refine A5 rfl rfl rfl rfl rfl ?_
   refine A1 rfl rfl rfl (H0 rfl (A0 rfl) C2 (by first | omega | (simp only [A6, A8, B2, B6, A9, szR] at *; omega))) ?_
   refine B5 rfl rfl rfl rfl rfl ?_
   refine A4 ?_
   refine j3 ?_
   refine R6 i j ((i + j) / 2 + 1) (j) ?_ ?_ (L0 ⟨rfl, rfl, rfl, rfl, rfl, rfl, rfl, rfl, trivial⟩)
   ·exact ⟨by omega, by omega, by rw [hinv.2.2, AO4 hlt hx k31]⟩
   ·omega
  ·intro h31
   have k31 := of_decide_eq_false h31; try simp only [A6] at k31
   refine A2 ?_
   refine A5 rfl rfl rfl rfl rfl ?_
   refine B5 rfl rfl rfl rfl rfl ?_
   refine A4 ?_
   refine j3 ?_
   refine R6 i j (i) ((i + j) / 2) ?_ ?_ (L0 ⟨rfl, rfl, rfl, rfl, rfl, rfl, rfl, rfl, trivial⟩)
   ·exact ⟨by omega, by omega, by rw [hinv.2.2, AO5 hlt hx k31]⟩
   ·omega
 ·intro h17
  have k17 := of_decide_eq_false h17; try simp only [A6] at k17
  have hge : bs (fun x => f x v) l 0 l.length = i := by rw [hinv.2.2, AF2 (by omega)]
  obtain ⟨y, hy⟩ := AB1 l i
  refine I1 ?_
  refine A3 (A2 ?_)
  refine A5 rfl rfl rfl rfl rfl ?_
  refine A5 rfl rfl rfl rfl rfl ?_
  refine A5 rfl rfl rfl rfl rfl ?_
  refine A1 rfl rfl rfl (L4 rfl (A0 rfl) (A0 rfl)) ?_
  refine A5 rfl rfl rfl rfl rfl ?_
  refine B1 rfl rfl (B9 rfl rfl rfl) (fun hc => C6 rfl (A0 rfl)) ?_
  refine B1 rfl rfl (B9 rfl rfl rfl) (fun hc => C6 rfl (A0 rfl)) ?_
  refine B1 rfl rfl (B9 rfl rfl rfl) (fun hc => C6 rfl (A0 rfl)) ?_
  refine B1 rfl rfl (B9 rfl rfl rfl) (fun hc => K0 rfl D6 F2 (B0 rfl hc) (B0 rfl hc) (hy (by first | omega | ((try simp only [A6, A8, B2, B6, A9, szR] at *); omega) | (have hc2 := hc; simp only [Bool.and_eq_true, Bool.or_eq_true, Bool.or_eq_false_iff, Bool.and_eq_false_iff, Bool.not_eq_true', Bool.not_eq_false', decide_eq_true_eq, decide_eq_false_iff_not, beq_iff_eq, bne_iff_ne, A6, A8] at hc2; omega))) rfl) ?_
  refine B1 rfl rfl (B9 rfl rfl rfl) (fun hc => L8 rfl (B0 rfl hc) T2 F2) ?_
  refine B1 rfl rfl (B9 rfl rfl rfl) (fun hc => C6 rfl (A0 rfl)) ?_
  refine B1 rfl rfl (B9 rfl rfl rfl) (fun hc => l5 rfl (B0 rfl hc) y v (hp y (G2 (hy (by first | omega | ((try simp only [A6, A8, B2, B6, A9, szR] at *); omega) | (have hc2 := hc; simp only [Bool.and_eq_true, Bool.or_eq_true, Bool.or_eq_false_iff, Bool.and_eq_false_iff, Bool.not_eq_true', Bool.not_eq_false', decide_eq_true_eq, decide_eq_false_iff_not, beq_iff_eq, bne_iff_ne, A6, A8] at hc2; omega))))) (B0 rfl hc) (B0 rfl hc)) ?_
  refine B1 rfl rfl (B9 rfl rfl rfl) (fun hc => M0 rfl (B0 rfl hc) C2) ?_
  refine A1 rfl rfl rfl (I3 rfl (A0 rfl) (G0 rfl)) ?_
  refine B5 rfl rfl rfl rfl rfl ?_
  refine B5 rfl rfl rfl rfl rfl ?_
  refine A4 ?_
  refine C7 ?_
  exact U3 rfl (by decide) (E4 (C3 rfl (by first | exact congrArg AV.int (by rw [hge]) | exact congrArg AV.bool (by rw [hge]; unfold bsAt; simp only [A6]; cases Nat.lt_or_ge i l.length with | inl hi => (rw [hy hi]; simp [hi]) | inr hi => (rw [List.getElem?_eq_none (by omega)]; simp only [decide_eq_false (show ¬ ((i : Int) < (l.length : Int)) by omega), Bool.false_and])))) (E4 (C3 rfl (by first | exact congrArg AV.int (by rw [hge]) | exact congrArg AV.bool (by rw [hge]; unfold bsAt; simp only [A6]; cases Nat.lt_or_ge i l.length with | inl hi => (rw [hy hi]; simp [hi]) | inr hi => (rw [List.getElem?_eq_none (by omega)]; simp only [decide_eq_false (show ¬ ((i : Int) < (l.length : Int)) by omega), Bool.false_and])))) J0))
theorem AF5 (l : List THeld) (v : Int) (pre : THeld → Int → Prop) (hp : ∀ x ∈ l, pre x v) (f : THeld → Int → Int) (hl2 : l.length ≤ 4611686018427387903) : FSpec Tryz.prog 190 [AV.list 5 (l.map THeld.cs), AV.int v, AV.fun2 Tryz.prog pre (fun a => AV.agg a.cs) (fun b => AV.int b) (fun a b => AV.int (f a b))] (AV.tup [AV.int (bs (fun x => f x v) l 0 l.length), AV.bool (bsAt (fun x => f x v) l (bs (fun x => f x v) l 0 l.length))]) := by
 refine E7 Tryz.func190 rfl Tryz.ntmps190 rfl ?_
 refine U9 (t := 0) rfl fun hl => ?_
 try simp only [A6] at hl
 refine A3 (A2 ?_)
 refine A1 rfl rfl rfl (C0 rfl C2) ?_
 refine A1 rfl rfl rfl (C0 rfl F3) ?_
 refine A4 (A3 (A2 ?_))
 refine A5 rfl rfl rfl rfl rfl ?_
 refine A1 rfl rfl rfl (I5 rfl D0 (A0 rfl)) ?_
 refine B5 rfl rfl rfl rfl rfl ?_
 refine A4 (A3 (A2 ?_))
 refine A5 rfl rfl rfl rfl rfl ?_
 refine A1 rfl rfl rfl (C0 rfl C2) ?_
 refine B5 rfl rfl rfl rfl rfl ?_
 refine A4 (A3 (E1 ?_))
 refine T3 [(0, _), (1, _), (2, _), (6, _), (7, _), (8, _)] _ (fun (i : Nat) (j : Nat) => i ≤ j ∧ j ≤ l.length ∧ bs (fun x => f x v) l 0 l.length = bs (fun x => f x v) l i j) (fun (i : Nat) (j : Nat) => []) (fun (i : Nat) (j : Nat) => [(9, AV.int i), (10, AV.int j)]) (fun (i : Nat) (j : Nat) => j - i) (0) ((l.map THeld.cs).length) ?_ (L0 ⟨rfl, rfl, rfl, rfl, rfl, rfl, rfl, rfl, trivial⟩) ?_
 ·exact ⟨Nat.zero_le _, by simp, by simp⟩
 intro i j hinv
 refine A3 (A3 (A2 ?_))
 refine A5 rfl rfl rfl rfl rfl ?_
 refine A5 rfl rfl rfl rfl rfl ?_
 refine A1 rfl rfl rfl (L4 rfl (A0 rfl) (A0 rfl)) ?_
 refine A4 ?_
 refine C8 (A0 rfl) ?_ ?_
 ·intro h17
  have k17 := of_decide_eq_true h17; try simp only [A6] at k17
  have hlt : i < j := by omega
  obtain ⟨x, hx⟩ := get_some (show (i + j) / 2 < l.length by omega)
  refine D2 (E1 (A3 (A2 ?_)))
  refine A5 rfl rfl rfl rfl rfl ?_
  refine A5 rfl rfl rfl rfl rfl ?_
  refine A1 rfl rfl rfl (H0 rfl (A0 rfl) (A0 rfl) (by omega)) ?_
  refine A1 rfl rfl rfl (f8 rfl (by kernel_rfl) Tryz.underlying253 (A0 rfl)) ?_
  refine A1 rfl rfl rfl (AN8 rfl (A0 rfl) C2 (by decide) (by decide)) ?_
  refine A1 rfl rfl rfl (f8 rfl (by kernel_rfl) S2 (A0 rfl)) ?_
  refine B5 rfl rfl rfl rfl rfl ?_
  refine A4 (A3 (A2 ?_))
  rw [AO6 (by omega)]
  refine A5 rfl rfl rfl rfl rfl ?_
  refine A5 rfl rfl rfl rfl rfl ?_
  refine A5 rfl rfl rfl rfl rfl ?_
  refine A1 rfl rfl rfl (K0 rfl D0 D3 (A0 rfl) (A0 rfl) hx (by first | omega | (simp only [A6, A8, B2, B6, A9, szR] at *; omega))) ?_
  refine A1 rfl rfl rfl (L8 rfl (A0 rfl) H8 D3) ?_
  refine A5 rfl rfl rfl rfl rfl ?_
  refine A1 rfl rfl rfl (l5 rfl (A0 rfl) x v (hp x (G2 hx)) (A0 rfl) (A0 rfl)) ?_
  refine A1 rfl rfl rfl (L4 rfl (A0 rfl) C2) ?_
  refine A4 ?_
  refine C8 (A0 rfl) ?_ ?_
  ·intro h31
   have k31 := of_decide_eq_true h31; try simp only [A6] at k31
   refine A2 ?_
   refine A5 rfl rfl rfl rfl rfl ?_
   refine A1 rfl rfl rfl (H0 rfl (A0 rfl) C2 (by first | omega | (simp only [A6, A8, B2, B6, A9, szR] at *; omega))) ?_
   refine B5 rfl rfl rfl rfl rfl ?_
   refine A4 ?_
   refine j3 ?_
   refine R6 i j ((i + j) / 2 + 1) (j) ?_ ?_ (L0 ⟨rfl, rfl, rfl, rfl, rfl, rfl, rfl, rfl, trivial⟩)
   ·exact ⟨by omega, by omega, by rw [hinv.2.2, AO4 hlt hx k31]⟩
   ·omega
  ·intro h31
   have k31 := of_decide_eq_false h31; try simp only [A6] at k31
   refine A2 ?_
   refine A5 rfl rfl rfl rfl rfl ?_
   refine B5 rfl rfl rfl rfl rfl ?_
   refine A4 ?_
   refine j3 ?_
   refine R6 i j (i) ((i + j) / 2) ?_ ?_ (L0 ⟨rfl, rfl, rfl, rfl, rfl, rfl, rfl, rfl, trivial⟩)
   ·exact ⟨by omega, by omega, by rw [hinv.2.2, AO5 hlt hx k31]⟩
   ·omega
 ·intro h17
  have k17 := of_decide_eq_false h17; try simp only [A6] at k17
  have hge : bs (fun x => f x v) l 0 l.length = i := by rw [hinv.2.2, AF2 (by omega)]
  obtain ⟨y, hy⟩ := AB1 l i
  refine I1 ?_
  refine A3 (A2 ?_)
  refine A5 rfl rfl rfl rfl rfl ?_
  refine A5 rfl rfl rfl rfl rfl ?_
  refine A5 rfl rfl rfl rfl rfl ?_
  refine A1 rfl rfl rfl (L4 rfl (A0 rfl) (A0 rfl)) ?_
  refine A5 rfl rfl rfl rfl rfl ?_
  refine B1 rfl rfl (B9 rfl rfl rfl) (fun hc => C6 rfl (A0 rfl)) ?_
  refine B1 rfl rfl (B9 rfl rfl rfl) (fun hc => C6 rfl (A0 rfl)) ?_
  refine B1 rfl rfl (B9 rfl rfl rfl) (fun hc => C6 rfl (A0 rfl)) ?_
  refine B1 rfl rfl (B9 rfl rfl rfl) (fun hc => K0 rfl D0 D3 (B0 rfl hc) (B0 rfl hc) (hy (by first | omega | ((try simp only [A6, A8, B2, B6, A9, szR] at *); omega) | (have hc2 := hc; simp only [Bool.and_eq_true, Bool.or_eq_true, Bool.or_eq_false_iff, Bool.and_eq_false_iff, Bool.not_eq_true', Bool.not_eq_false', decide_eq_true_eq, decide_eq_false_iff_not, beq_iff_eq, bne_iff_ne, A6, A8] at hc2; omega))) rfl) ?_
  refine B1 rfl rfl (B9 rfl rfl rfl) (fun hc => L8 rfl (B0 rfl hc) H8 D3) ?_
  refine B1 rfl rfl (B9 rfl rfl rfl) (fun hc => C6 rfl (A0 rfl)) ?_
  refine B1 rfl rfl (B9 rfl rfl rfl) (fun hc => l5 rfl (B0 rfl hc) y v (hp y (G2 (hy (by first | omega | ((try simp only [A6, A8, B2, B6, A9, szR] at *); omega) | (have hc2 := hc; simp only [Bool.and_eq_true, Bool.or_eq_true, Bool.or_eq_false_iff, Bool.and_eq_false_iff, Bool.not_eq_true', Bool.not_eq_false', decide_eq_true_eq, decide_eq_false_iff_not, beq_iff_eq, bne_iff_ne, A6, A8] at hc2; omega))))) (B0 rfl hc) (B0 rfl hc)) ?_
  refine B1 rfl rfl (B9 rfl rfl rfl) (fun hc => M0 rfl (B0 rfl hc) C2) ?_
  refine A1 rfl rfl rfl (I3 rfl (A0 rfl) (G0 rfl)) ?_
  refine B5 rfl rfl rfl rfl rfl ?_
  refine B5 rfl rfl rfl rfl rfl ?_
  refine A4 ?_
  refine C7 ?_
  exact U3 rfl (by decide) (E4 (C3 rfl (by first | exact congrArg AV.int (by rw [hge]) | exact congrArg AV.bool (by rw [hge]; unfold bsAt; simp only [A6]; cases Nat.lt_or_ge i l.length with | inl hi => (rw [hy hi]; simp [hi]) | inr hi => (rw [List.getElem?_eq_none (by omega)]; simp only [decide_eq_false (show ¬ ((i : Int) < (l.length : Int)) by omega), Bool.false_and])))) (E4 (C3 rfl (by first | exact congrArg AV.int (by rw [hge]) | exact congrArg AV.bool (by rw [hge]; unfold bsAt; simp only [A6]; cases Nat.lt_or_ge i l.length with | inl hi => (rw [hy hi]; simp [hi]) | inr hi => (rw [List.getElem?_eq_none (by omega)]; simp only [decide_eq_false (show ¬ ((i : Int) < (l.length : Int)) by omega), Bool.false_and])))) J0))
theorem AF6 (l : List TTold) (v : Int) (pre : TTold → Int → Prop) (hp : ∀ x ∈ l, pre x v) (f : TTold → Int → Int) (hl2 : l.length ≤ 4611686018427387903) : FSpec Tryz.prog 193 [AV.list 3 (l.map TTold.cs), AV.int v, AV.fun2 Tryz.prog pre (fun a => AV.agg a.cs) (fun b => AV.int b) (fun a b => AV.int (f a b))] (AV.tup [AV.int (bs (fun x => f x v) l 0 l.length), AV.bool (bsAt (fun x => f x v) l (bs (fun x => f x v) l 0 l.length))]) := by
 refine E7 Tryz.func193 rfl Tryz.ntmps193 rfl ?_
 refine U9 (t := 0) rfl fun hl => ?_
 try simp only [A6] at hl
 refine A3 (A2 ?_)
 refine A1 rfl rfl rfl (C0 rfl C2) ?_
 refine A1 rfl rfl rfl (C0 rfl F3) ?_
 refine A4 (A3 (A2 ?_))
 refine A5 rfl rfl rfl rfl rfl ?_
 refine A1 rfl rfl rfl (I5 rfl E6 (A0 rfl)) ?_
 refine B5 rfl rfl rfl rfl rfl ?_
 refine A4 (A3 (A2 ?_))
 refine A5 rfl rfl rfl rfl rfl ?_
 refine A1 rfl rfl rfl (C0 rfl C2) ?_
 refine B5 rfl rfl rfl rfl rfl ?_
 refine A4 (A3 (E1 ?_))
 refine T3 [(0, _), (1, _), (2, _), (6, _), (7, _), (8, _)] _ (fun (i : Nat) (j : Nat) => i ≤ j ∧ j ≤ l.length ∧ bs (fun x => f x v) l 0 l.length = bs (fun x => f x v) l i j) (fun (i : Nat) (j : Nat) => []) (fun (i : Nat) (j : Nat) => [(9, AV.int i), (10, AV.int j)]) (fun (i : Nat) (j : Nat) => j - i) (0) ((l.map TTold.cs).length) ?_ (L0 ⟨rfl, rfl, rfl, rfl, rfl, rfl, rfl, rfl, trivial⟩) ?_
 ·exact ⟨Nat.zero_le _, by simp, by simp⟩
 intro i j hinv
 refine A3 (A3 (A2 ?_))
 refine A5 rfl rfl rfl rfl rfl ?_
 refine A5 rfl rfl rfl rfl rfl ?_
 refine A1 rfl rfl rfl (L4 rfl (A0 rfl) (A0 rfl)) ?_
 refine A4 ?_
 refine C8 (A0 rfl) ?_ ?_
 ·intro h17
  have k17 := of_decide_eq_true h17; try simp only [A6] at k17
  have hlt : i < j := by omega
  obtain ⟨x, hx⟩ := get_some (show (i + j) / 2 < l.length by omega)
  refine D2 (E1 (A3 (A2 ?_)))
  refine A5 rfl rfl rfl rfl rfl ?_
  refine A5 rfl rfl rfl rfl rfl ?_
  refine A1 rfl rfl rfl (H0 rfl (A0 rfl) (A0 rfl) (by omega)) ?_
  refine A1 rfl rfl rfl (f8 rfl (by kernel_rfl) Tryz.underlying253 (A0 rfl)) ?_
  refine A1 rfl rfl rfl (AN8 rfl (A0 rfl) C2 (by decide) (by decide)) ?_
  refine A1 rfl rfl rfl (f8 rfl (by kernel_rfl) S2 (A0 rfl)) ?_
  refine B5 rfl rfl rfl rfl rfl ?_
  refine A4 (A3 (A2 ?_))
  rw [AO6 (by omega)]
  refine A5 rfl rfl rfl rfl rfl ?_
  refine A5 rfl rfl rfl rfl rfl ?_
  refine A5 rfl rfl rfl rfl rfl ?_
  refine A1 rfl rfl rfl (K0 rfl E6 G7 (A0 rfl) (A0 rfl) hx (by first | omega | (simp only [A6, A8, B2, B6, A9, szR] at *; omega))) ?_
  refine A1 rfl rfl rfl (L8 rfl (A0 rfl) T4 G7) ?_
  refine A5 rfl rfl rfl rfl rfl ?_
  refine A1 rfl rfl rfl (l5 rfl (A0 rfl) x v (hp x (G2 hx)) (A0 rfl) (A0 rfl)) ?_
  refine A1 rfl rfl rfl (L4 rfl (A0 rfl) C2) ?_
  refine A4 ?_
  refine C8 (A0 rfl) ?_ ?_
  ·intro h31
   have k31 := of_decide_eq_true h31; try simp only [A6] at k31
   refine A2 ?_
   refine A5 rfl rfl rfl rfl rfl ?_
   refine A1 rfl rfl rfl (H0 rfl (A0 rfl) C2 (by first | omega | (simp only [A6, A8, B2, B6, A9, szR] at *; omega))) ?_
   refine B5 rfl rfl rfl rfl rfl ?_
   refine A4 ?_
   refine j3 ?_
   refine R6 i j ((i + j) / 2 + 1) (j) ?_ ?_ (L0 ⟨rfl, rfl, rfl, rfl, rfl, rfl, rfl, rfl, trivial⟩)
   ·exact ⟨by omega, by omega, by rw [hinv.2.2, AO4 hlt hx k31]⟩
   ·omega
  ·intro h31
   have k31 := of_decide_eq_false h31; try simp only [A6] at k31
   refine A2 ?_
   refine A5 rfl rfl rfl rfl rfl ?_
   refine B5 rfl rfl rfl rfl rfl ?_
   refine A4 ?_
   refine j3 ?_
   refine R6 i j (i) ((i + j) / 2) ?_ ?_ (L0 ⟨rfl, rfl, rfl, rfl, rfl, rfl, rfl, rfl, trivial⟩)
   ·exact ⟨by omega, by omega, by rw [hinv.2.2, AO5 hlt hx k31]⟩
   ·omega
 ·intro h17
  have k17 := of_decide_eq_false h17; try simp only [A6] at k17
  have hge : bs (fun x => f x v) l 0 l.length = i := by rw [hinv.2.2, AF2 (by omega)]
  obtain ⟨y, hy⟩ := AB1 l i
  refine I1 ?_
  refine A3 (A2 ?_)
  refine A5 rfl rfl rfl rfl rfl ?_
  refine A5 rfl rfl rfl rfl rfl ?_
  refine A5 rfl rfl rfl rfl rfl ?_
  refine A1 rfl rfl rfl (L4 rfl (A0 rfl) (A0 rfl)) ?_
  refine A5 rfl rfl rfl rfl rfl ?_
  refine B1 rfl rfl (B9 rfl rfl rfl) (fun hc => C6 rfl (A0 rfl)) ?_
  refine B1 rfl rfl (B9 rfl rfl rfl) (fun hc => C6 rfl (A0 rfl)) ?_
  refine B1 rfl rfl (B9 rfl rfl rfl) (fun hc => C6 rfl (A0 rfl)) ?_
  refine B1 rfl rfl (B9 rfl rfl rfl) (fun hc => K0 rfl E6 G7 (B0 rfl hc) (B0 rfl hc) (hy (by first | omega | ((try simp only [A6, A8, B2, B6, A9, szR] at *); omega) | (have hc2 := hc; simp only [Bool.and_eq_true, Bool.or_eq_true, Bool.or_eq_false_iff, Bool.and_eq_false_iff, Bool.not_eq_true', Bool.not_eq_false', decide_eq_true_eq, decide_eq_false_iff_not, beq_iff_eq, bne_iff_ne, A6, A8] at hc2; omega))) rfl) ?_
  refine B1 rfl rfl (B9 rfl rfl rfl) (fun hc => L8 rfl (B0 rfl hc) T4 G7) ?_
  refine B1 rfl rfl (B9 rfl rfl rfl) (fun hc => C6 rfl (A0 rfl)) ?_
  refine B1 rfl rfl (B9 rfl rfl rfl) (fun hc => l5 rfl (B0 rfl hc) y v (hp y (G2 (hy (by first | omega | ((try simp only [A6, A8, B2, B6, A9, szR] at *); omega) | (have hc2 := hc; simp only [Bool.and_eq_true, Bool.or_eq_true, Bool.or_eq_false_iff, Bool.and_eq_false_iff, Bool.not_eq_true', Bool.not_eq_false', decide_eq_true_eq, decide_eq_false_iff_not, beq_iff_eq, bne_iff_ne, A6, A8] at hc2; omega))))) (B0 rfl hc) (B0 rfl hc)) ?_
  refine B1 rfl rfl (B9 rfl rfl rfl) (fun hc => M0 rfl (B0 rfl hc) C2) ?_
  refine A1 rfl rfl rfl (I3 rfl (A0 rfl) (G0 rfl)) ?_
  refine B5 rfl rfl rfl rfl rfl ?_
  refine B5 rfl rfl rfl rfl rfl ?_
  refine A4 ?_
  refine C7 ?_
  exact U3 rfl (by decide) (E4 (C3 rfl (by first | exact congrArg AV.int (by rw [hge]) | exact congrArg AV.bool (by rw [hge]; unfold bsAt; simp only [A6]; cases Nat.lt_or_ge i l.length with | inl hi => (rw [hy hi]; simp [hi]) | inr hi => (rw [List.getElem?_eq_none (by omega)]; simp only [decide_eq_false (show ¬ ((i : Int) < (l.length : Int)) by omega), Bool.false_and])))) (E4 (C3 rfl (by first | exact congrArg AV.int (by rw [hge]) | exact congrArg AV.bool (by rw [hge]; unfold bsAt; simp only [A6]; cases Nat.lt_or_ge i l.length with | inl hi => (rw [hy hi]; simp [hi]) | inr hi => (rw [List.getElem?_eq_none (by omega)]; simp only [decide_eq_false (show ¬ ((i : Int) < (l.length : Int)) by omega), Bool.false_and])))) J0))
theorem AS6 (l : List Str) (v : Str) : FSpec Tryz.prog 296 [strs l, AV.str v] (AV.int (idxFrom (fun x => v == x) l 0)) := by
 refine E7 Tryz.func296 rfl Tryz.ntmps296 rfl ?_
 refine U9 (t := 0) rfl fun hl => ?_
 try simp only [A6] at hl
 refine A3 (A2 ?_)
 refine A1 rfl rfl rfl (C0 rfl C2) ?_
 refine A4 (A3 (A3 (A2 ?_)))
 refine A5 rfl rfl rfl rfl rfl ?_
 refine A1 rfl rfl rfl (I5 rfl E3 (A0 rfl)) ?_
 refine A1 rfl rfl rfl (C6 rfl C2) ?_
 refine A4 (E1 ?_)
 refine K8 [(0, _), (1, _), (7, _)] _ (fun (i : Nat) => i ≤ l.length ∧ idxFrom (fun x => v == x) l 0 = idxFrom (fun x => v == x) (l.drop i) i) (fun (i : Nat) => []) (fun (i : Nat) => [(8, AV.int i)]) (fun (i : Nat) => l.length - i) (0) ?_ (L0 ⟨rfl, rfl, rfl, rfl, trivial⟩) ?_
 ·exact ⟨Nat.zero_le _, rfl⟩
 intro i hinv
 refine A3 (A2 ?_)
 refine A1 rfl rfl rfl (L4 rfl (A0 rfl) (A0 rfl)) ?_
 refine A4 (A3 ?_)
 refine C8 (A0 rfl) ?_ ?_
 ·intro h9
  have k9 := of_decide_eq_true h9; try simp only [A6] at k9
  have hlt : i < l.length := by omega
  obtain ⟨x, hx⟩ := get_some hlt
  refine D2 (A3 (E1 (A3 (A2 ?_))))
  refine A5 rfl rfl rfl rfl rfl ?_
  refine B5 rfl rfl rfl rfl rfl ?_
  refine A4 (A3 (A2 ?_))
  refine A5 rfl rfl rfl rfl rfl ?_
  refine A5 rfl rfl rfl rfl rfl ?_
  refine A5 rfl rfl rfl rfl rfl ?_
  refine A1 rfl rfl rfl (K0 rfl E3 E8 (A0 rfl) (A0 rfl) hx (by first | omega | (simp only [A6, A8, B2, B6, A9, szR] at *; omega))) ?_
  refine A1 rfl rfl rfl (O8 rfl (A0 rfl) H2 rfl) ?_
  refine A1 rfl rfl rfl (w4 rfl (A0 rfl) (A0 rfl)) ?_
  refine A4 ?_
  refine C8 (A0 rfl) ?_ ?_
  ·intro h16
   refine A3 (A2 ?_)
   refine A5 rfl rfl rfl rfl rfl ?_
   refine B5 rfl rfl rfl rfl rfl ?_
   refine A4 ?_
   refine C7 ?_
   exact I2 rfl (C3 rfl (by first | exact congrArg AV.int (by rw [hinv.2, drop_some hx, idxFrom, h16]; rfl) | exact congrArg AV.int (by rw [hinv.2, List.drop_eq_nil_of_le hge]; rfl)))
  ·intro h16
   refine D2 (A2 ?_)
   refine A1 rfl rfl rfl (H0 rfl (A0 rfl) C2 (by first | omega | (simp only [A6, A8, B2, B6, A9, szR] at *; omega))) ?_
   refine A5 rfl rfl rfl rfl rfl ?_
   refine A4 ?_
   refine N0 i (i + 1) ?_ ?_ (L0 ⟨rfl, rfl, rfl, rfl, trivial⟩)
   ·exact ⟨by omega, by rw [hinv.2, drop_some hx, idxFrom, h16]; simp⟩
   ·omega
 ·intro h9
  have k9 := of_decide_eq_false h9; try simp only [A6] at k9
  have hge : l.length ≤ i := by omega
  refine I1 ?_
  refine A3 (A2 ?_)
  refine A1 rfl rfl rfl (C0 rfl C2) ?_
  refine A4 ?_
  refine C7 ?_
  exact I2 rfl (C3 rfl (by first | exact congrArg AV.int (by rw [hinv.2, drop_some hx, idxFrom, h16]; rfl) | exact congrArg AV.int (by rw [hinv.2, List.drop_eq_nil_of_le hge]; rfl)))
theorem AK3 (l : List Str) (v : Str) : FSpec Tryz.prog 279 [strs l, AV.str v] (AV.bool (l.any fun x => v == x)) := by
 refine E7 Tryz.func279 rfl Tryz.ntmps279 rfl ?_
 refine A3 (A2 ?_)
 refine A1 rfl rfl rfl (C0 rfl F3) ?_
 refine A4 (A3 (A2 ?_))
 refine A5 rfl rfl rfl rfl rfl ?_
 refine A5 rfl rfl rfl rfl rfl ?_
 refine A1 rfl rfl rfl (E5 rfl Tryz.call296 rfl (AS6 _ _) (A7 (A0 rfl) (A7 (A0 rfl) C9))) ?_
 refine A1 rfl rfl rfl (d7 rfl (A0 rfl) C2) ?_
 refine B5 rfl rfl rfl rfl rfl ?_
 refine A4 ?_
 refine C7 ?_
 exact I2 rfl (C3 rfl (by exact congrArg AV.bool (u4 (fun x => v == x) l 0 (Int.le_refl 0))))
theorem AV8 (l : List TWrite) (hl : l.length ≤ 4194304) : GSpec Tryz.prog 252 [AV.list 3 (l.map TWrite.cs)] [] (fun _ : Value => True) (fun v => [.arr v 77 3 (l.map TWrite.cs)]) (fun v => AV.is v) := by
 refine H7 Tryz.func252 rfl Tryz.ntmps252 rfl ?_
 refine j8 0 rfl ?_ ?_
 ·intro hnil
  have hn : l = [] := by cases l with | nil => rfl | cons x l => simp at hnil
  subst hn
  refine A3 (A2 ?_)
  refine P9 77 3 rfl rfl rfl rfl K1 ?_
  intro v2
  refine A4 (A3 (A3 (A2 ?_)))
  refine A5 rfl rfl rfl rfl rfl ?_
  refine A1 rfl rfl rfl (AA9 rfl F7 (A0 rfl)) ?_
  refine A4 ?_
  refine C8 (A0 rfl) ?_ ?_
  ·intro h4
   refine A3 (A2 ?_)
   refine P9 77 3 rfl rfl rfl rfl K1 ?_
   intro v2
   refine A4 ?_
   refine C7 ?_
   exact J6 [0] v2 (trivial) rfl (by rfl) (N2 rfl (C3 rfl (by first | rfl | (refine congrArg AV.bool ?_; simp_all; done))))
  ·intro h4
   cases h4
 ·skip
  refine A3 (A2 ?_)
  refine P9 77 3 rfl rfl rfl rfl K1 ?_
  intro v2
  refine A4 (A3 (A3 (A2 ?_)))
  refine A5 rfl rfl rfl rfl rfl ?_
  refine A1 rfl rfl rfl (AB0 rfl F7 (A0 rfl)) ?_
  refine A4 ?_
  refine C8 (A0 rfl) ?_ ?_
  ·intro h4
   cases h4
  ·intro h4
   refine D2 (A3 (A2 ?_))
   refine R8 rfl rfl rfl rfl F7 H4 ?_
   intro v5
   refine A5 rfl rfl rfl rfl rfl ?_
   refine M6 (by' := 40) 0 rfl rfl rfl rfl F7 Tryz.type77 rfl rfl rfl rfl rfl rfl (A0 rfl) (o8 (A0 rfl) r8) rfl (by first | omega | (simp only [A6, A8, B2, B6, A9, szR] at *; omega)) ?_
   intro v7_1
   refine B5 rfl rfl rfl rfl rfl ?_
   refine A4 ?_
   refine C7 ?_
   exact J6 [0] v7_1 (trivial) rfl (by rfl) (N2 rfl (C3 rfl (by first | rfl | (refine congrArg AV.bool ?_; simp_all; done))))
theorem Af1 (l : List TVer) (hl : l.length ≤ 4194304) : GSpec Tryz.prog 284 [AV.list 3 (l.map TVer.cs)] [] (fun _ : Value => True) (fun v => [.arr v 197 3 (l.map TVer.cs)]) (fun v => AV.is v) := by
 refine H7 Tryz.func284 rfl Tryz.ntmps284 rfl ?_
 refine j8 0 rfl ?_ ?_
 ·intro hnil
  have hn : l = [] := by cases l with | nil => rfl | cons x l => simp at hnil
  subst hn
  refine A3 (A2 ?_)
  refine P9 197 3 rfl rfl rfl rfl K1 ?_
  intro v2
  refine A4 (A3 (A3 (A2 ?_)))
  refine A5 rfl rfl rfl rfl rfl ?_
  refine A1 rfl rfl rfl (AA9 rfl I6 (A0 rfl)) ?_
  refine A4 ?_
  refine C8 (A0 rfl) ?_ ?_
  ·intro h4
   refine A3 (A2 ?_)
   refine P9 197 3 rfl rfl rfl rfl K1 ?_
   intro v2
   refine A4 ?_
   refine C7 ?_
   exact J6 [0] v2 (trivial) rfl (by rfl) (N2 rfl (C3 rfl (by first | rfl | (refine congrArg AV.bool ?_; simp_all; done))))
  ·intro h4
   cases h4
 ·skip
  refine A3 (A2 ?_)
  refine P9 197 3 rfl rfl rfl rfl K1 ?_
  intro v2
  refine A4 (A3 (A3 (A2 ?_)))
  refine A5 rfl rfl rfl rfl rfl ?_
  refine A1 rfl rfl rfl (AB0 rfl I6 (A0 rfl)) ?_
  refine A4 ?_
  refine C8 (A0 rfl) ?_ ?_
  ·intro h4
   cases h4
  ·intro h4
   refine D2 (A3 (A2 ?_))
   refine R8 rfl rfl rfl rfl I6 O6 ?_
   intro v5
   refine A5 rfl rfl rfl rfl rfl ?_
   refine M6 (by' := 32) 0 rfl rfl rfl rfl I6 Tryz.type197 rfl rfl rfl rfl rfl rfl (A0 rfl) (o8 (A0 rfl) r8) rfl (by first | omega | (simp only [A6, A8, B2, B6, A9, szR] at *; omega)) ?_
   intro v7_1
   refine B5 rfl rfl rfl rfl rfl ?_
   refine A4 ?_
   refine C7 ?_
   exact J6 [0] v7_1 (trivial) rfl (by rfl) (N2 rfl (C3 rfl (by first | rfl | (refine congrArg AV.bool ?_; simp_all; done))))
theorem AY8 (l : List TCell) (hl : l.length ≤ 4194304) : GSpec Tryz.prog 283 [AV.list 2 (l.map TCell.cs)] [] (fun _ : Value => True) (fun v => [.arr v 142 2 (l.map TCell.cs)]) (fun v => AV.is v) := by
 refine H7 Tryz.func283 rfl Tryz.ntmps283 rfl ?_
 refine j8 0 rfl ?_ ?_
 ·intro hnil
  have hn : l = [] := by cases l with | nil => rfl | cons x l => simp at hnil
  subst hn
  refine A3 (A2 ?_)
  refine P9 142 2 rfl rfl rfl rfl K1 ?_
  intro v2
  refine A4 (A3 (A3 (A2 ?_)))
  refine A5 rfl rfl rfl rfl rfl ?_
  refine A1 rfl rfl rfl (AA9 rfl D6 (A0 rfl)) ?_
  refine A4 ?_
  refine C8 (A0 rfl) ?_ ?_
  ·intro h4
   refine A3 (A2 ?_)
   refine P9 142 2 rfl rfl rfl rfl K1 ?_
   intro v2
   refine A4 ?_
   refine C7 ?_
   exact J6 [0] v2 (trivial) rfl (by rfl) (N2 rfl (C3 rfl (by first | rfl | (refine congrArg AV.bool ?_; simp_all; done))))
  ·intro h4
   cases h4
 ·skip
  refine A3 (A2 ?_)
  refine P9 142 2 rfl rfl rfl rfl K1 ?_
  intro v2
  refine A4 (A3 (A3 (A2 ?_)))
  refine A5 rfl rfl rfl rfl rfl ?_
  refine A1 rfl rfl rfl (AB0 rfl D6 (A0 rfl)) ?_
  refine A4 ?_
  refine C8 (A0 rfl) ?_ ?_
  ·intro h4
   cases h4
  ·intro h4
   refine D2 (A3 (A2 ?_))
   refine R8 rfl rfl rfl rfl D6 F2 ?_
   intro v5
   refine A5 rfl rfl rfl rfl rfl ?_
   refine M6 (by' := 40) 0 rfl rfl rfl rfl D6 Tryz.type142 rfl rfl rfl rfl rfl rfl (A0 rfl) (o8 (A0 rfl) r8) rfl (by first | omega | (simp only [A6, A8, B2, B6, A9, szR] at *; omega)) ?_
   intro v7_1
   refine B5 rfl rfl rfl rfl rfl ?_
   refine A4 ?_
   refine C7 ?_
   exact J6 [0] v7_1 (trivial) rfl (by rfl) (N2 rfl (C3 rfl (by first | rfl | (refine congrArg AV.bool ?_; simp_all; done))))
theorem AY9 (l : List THeld) (hl : l.length ≤ 4194304) : GSpec Tryz.prog 221 [AV.list 5 (l.map THeld.cs)] [] (fun _ : Value => True) (fun v => [.arr v 45 5 (l.map THeld.cs)]) (fun v => AV.is v) := by
 refine H7 Tryz.func221 rfl Tryz.ntmps221 rfl ?_
 refine j8 0 rfl ?_ ?_
 ·intro hnil
  have hn : l = [] := by cases l with | nil => rfl | cons x l => simp at hnil
  subst hn
  refine A3 (A2 ?_)
  refine P9 45 5 rfl rfl rfl rfl K1 ?_
  intro v2
  refine A4 (A3 (A3 (A2 ?_)))
  refine A5 rfl rfl rfl rfl rfl ?_
  refine A1 rfl rfl rfl (AA9 rfl D0 (A0 rfl)) ?_
  refine A4 ?_
  refine C8 (A0 rfl) ?_ ?_
  ·intro h4
   refine A3 (A2 ?_)
   refine P9 45 5 rfl rfl rfl rfl K1 ?_
   intro v2
   refine A4 ?_
   refine C7 ?_
   exact J6 [0] v2 (trivial) rfl (by rfl) (N2 rfl (C3 rfl (by first | rfl | (refine congrArg AV.bool ?_; simp_all; done))))
  ·intro h4
   cases h4
 ·skip
  refine A3 (A2 ?_)
  refine P9 45 5 rfl rfl rfl rfl K1 ?_
  intro v2
  refine A4 (A3 (A3 (A2 ?_)))
  refine A5 rfl rfl rfl rfl rfl ?_
  refine A1 rfl rfl rfl (AB0 rfl D0 (A0 rfl)) ?_
  refine A4 ?_
  refine C8 (A0 rfl) ?_ ?_
  ·intro h4
   cases h4
  ·intro h4
   refine D2 (A3 (A2 ?_))
   refine R8 rfl rfl rfl rfl D0 D3 ?_
   intro v5
   refine A5 rfl rfl rfl rfl rfl ?_
   refine M6 (by' := 72) 0 rfl rfl rfl rfl D0 Tryz.type45 rfl rfl rfl rfl rfl rfl (A0 rfl) (o8 (A0 rfl) r8) rfl (by first | omega | (simp only [A6, A8, B2, B6, A9, szR] at *; omega)) ?_
   intro v7_1
   refine B5 rfl rfl rfl rfl rfl ?_
   refine A4 ?_
   refine C7 ?_
   exact J6 [0] v7_1 (trivial) rfl (by rfl) (N2 rfl (C3 rfl (by first | rfl | (refine congrArg AV.bool ?_; simp_all; done))))
theorem AF7 (l : List TTold) (hl : l.length ≤ 4194304) : GSpec Tryz.prog 254 [AV.list 3 (l.map TTold.cs)] [] (fun _ : Value => True) (fun v => [.arr v 39 3 (l.map TTold.cs)]) (fun v => AV.is v) := by
 refine H7 Tryz.func254 rfl Tryz.ntmps254 rfl ?_
 refine j8 0 rfl ?_ ?_
 ·intro hnil
  have hn : l = [] := by cases l with | nil => rfl | cons x l => simp at hnil
  subst hn
  refine A3 (A2 ?_)
  refine P9 39 3 rfl rfl rfl rfl K1 ?_
  intro v2
  refine A4 (A3 (A3 (A2 ?_)))
  refine A5 rfl rfl rfl rfl rfl ?_
  refine A1 rfl rfl rfl (AA9 rfl E6 (A0 rfl)) ?_
  refine A4 ?_
  refine C8 (A0 rfl) ?_ ?_
  ·intro h4
   refine A3 (A2 ?_)
   refine P9 39 3 rfl rfl rfl rfl K1 ?_
   intro v2
   refine A4 ?_
   refine C7 ?_
   exact J6 [0] v2 (trivial) rfl (by rfl) (N2 rfl (C3 rfl (by first | rfl | (refine congrArg AV.bool ?_; simp_all; done))))
  ·intro h4
   cases h4
 ·skip
  refine A3 (A2 ?_)
  refine P9 39 3 rfl rfl rfl rfl K1 ?_
  intro v2
  refine A4 (A3 (A3 (A2 ?_)))
  refine A5 rfl rfl rfl rfl rfl ?_
  refine A1 rfl rfl rfl (AB0 rfl E6 (A0 rfl)) ?_
  refine A4 ?_
  refine C8 (A0 rfl) ?_ ?_
  ·intro h4
   cases h4
  ·intro h4
   refine D2 (A3 (A2 ?_))
   refine R8 rfl rfl rfl rfl E6 G7 ?_
   intro v5
   refine A5 rfl rfl rfl rfl rfl ?_
   refine M6 (by' := 24) 0 rfl rfl rfl rfl E6 Tryz.type39 rfl rfl rfl rfl rfl rfl (A0 rfl) (o8 (A0 rfl) r8) rfl (by first | omega | (simp only [A6, A8, B2, B6, A9, szR] at *; omega)) ?_
   intro v7_1
   refine B5 rfl rfl rfl rfl rfl ?_
   refine A4 ?_
   refine C7 ?_
   exact J6 [0] v7_1 (trivial) rfl (by rfl) (N2 rfl (C3 rfl (by first | rfl | (refine congrArg AV.bool ?_; simp_all; done))))
theorem AS7 (l : List Str) (hl : l.length ≤ 4194304) : GSpec Tryz.prog 236 [strs l] [] (fun _ : Value => True) (fun v => [.arr v 9 1 (l.map (fun x => [AV.str x]))]) (fun v => AV.is v) := by
 refine H7 Tryz.func236 rfl Tryz.ntmps236 rfl ?_
 refine j8 0 rfl ?_ ?_
 ·intro hnil
  have hn : l = [] := by cases l with | nil => rfl | cons x l => simp at hnil
  subst hn
  refine A3 (A2 ?_)
  refine P9 9 1 rfl rfl rfl rfl K1 ?_
  intro v2
  refine A4 (A3 (A3 (A2 ?_)))
  refine A5 rfl rfl rfl rfl rfl ?_
  refine A1 rfl rfl rfl (AA9 rfl E3 (A0 rfl)) ?_
  refine A4 ?_
  refine C8 (A0 rfl) ?_ ?_
  ·intro h4
   refine A3 (A2 ?_)
   refine P9 9 1 rfl rfl rfl rfl K1 ?_
   intro v2
   refine A4 ?_
   refine C7 ?_
   exact J6 [0] v2 (trivial) rfl (by rfl) (N2 rfl (C3 rfl (by first | rfl | (refine congrArg AV.bool ?_; simp_all; done))))
  ·intro h4
   cases h4
 ·skip
  refine A3 (A2 ?_)
  refine P9 9 1 rfl rfl rfl rfl K1 ?_
  intro v2
  refine A4 (A3 (A3 (A2 ?_)))
  refine A5 rfl rfl rfl rfl rfl ?_
  refine A1 rfl rfl rfl (AB0 rfl E3 (A0 rfl)) ?_
  refine A4 ?_
  refine C8 (A0 rfl) ?_ ?_
  ·intro h4
   cases h4
  ·intro h4
   refine D2 (A3 (A2 ?_))
   refine R8 rfl rfl rfl rfl E3 E8 ?_
   intro v5
   refine A5 rfl rfl rfl rfl rfl ?_
   refine M6 (by' := 16) 0 rfl rfl rfl rfl E3 Tryz.type9 rfl rfl rfl rfl rfl rfl (A0 rfl) (o8 (A0 rfl) r8) rfl (by first | omega | (simp only [A6, A8, B2, B6, A9, szR] at *; omega)) ?_
   intro v7_1
   refine B5 rfl rfl rfl rfl rfl ?_
   refine A4 ?_
   refine C7 ?_
   exact J6 [0] v7_1 (trivial) rfl (by rfl) (N2 rfl (C3 rfl (by first | rfl | (refine congrArg AV.bool ?_; simp_all; done))))
theorem AZ0 (v vv : Value) (l : List THeld) (x : THeld) (i : Nat) (hi : i ≤ l.length) (hl : l.length ≤ 4194304) : GSpec Tryz.prog 200 [AV.is v, AV.int i, AV.is vv] [.arr v 45 5 (l.map THeld.cs), .arr vv 45 5 [THeld.cs x]] (fun _ : Value => True) (fun v => [.arr v 45 5 ((l.take i ++ x :: l.drop i).map THeld.cs)]) (fun v => AV.is v) := by
 have hn : (l.map THeld.cs).length = l.length := A6 _
 have h1 : ([THeld.cs x] : List (List AV)).length = 1 := rfl
 have e28 : ((l.map THeld.cs).length : Int) + (([THeld.cs x] : List (List AV)).length : Int) = ((l.length + 1 : Nat) : Int) := by rw [hn, h1]; rfl
 have e49 : (i : Int) + (([THeld.cs x] : List (List AV)).length : Int) = ((i + 1 : Nat) : Int) := by rw [h1]; rfl
 have e39 : ((l.length + 1 : Nat) : Int) - (i : Int) = ((l.length + 1 - i : Nat) : Int) := by omega
 refine H7 Tryz.func200 rfl Tryz.ntmps200 rfl ?_
 refine e8 0 rfl ?_ ?_
 ·intro hv hes; subst hv
  have hl0 : l = [] := by cases l with | nil => rfl | cons y l => (simp at hes)
  subst hl0
  have hi0 : i = 0 := by simpa using hi
  subst hi0
  refine e8 1 rfl (fun _ h => by cases h) ?_
  intro gv cv hvv _ _
  subst hvv
  refine A3 (A2 ?_)
  refine A1 rfl rfl rfl (C0 rfl K1) ?_
  refine A4 (A3 (A2 ?_))
  refine A5 rfl rfl rfl rfl rfl ?_
  refine A5 rfl rfl rfl rfl rfl ?_
  refine A1 rfl rfl rfl (AO2 0 rfl D0 D3 (A0 rfl) rfl (A0 rfl) (by first | omega | (simp only [A6, A8, B2, B6, A9, szR] at *; omega)) (by first | omega | (simp only [A6, A8, B2, B6, A9, szR] at *; omega))) ?_
  refine A4 (A3 (A2 ?_))
  refine A5 rfl rfl rfl rfl rfl ?_
  refine A1 rfl rfl rfl (j5 rfl D0 (A0 rfl)) ?_
  refine B5 rfl rfl rfl rfl rfl ?_
  refine A4 (A3 (A3 (A2 ?_)))
  refine A5 rfl rfl rfl rfl rfl ?_
  refine A1 rfl rfl rfl (M0 rfl (A0 rfl) C2) ?_
  refine A4 ?_
  refine C8 (A0 rfl) ?_ ?_
  ·intro h16
   have k16 := K3 h16; try simp only [A6] at k16
   rw [h1] at k16; omega
  ·intro h16
   have k16 := K2 h16; try simp only [A6] at k16
   refine D2 (A3 (A2 ?_))
   refine A5 rfl rfl rfl rfl rfl ?_
   refine A1 rfl rfl rfl (U1 0 rfl D0 (A0 rfl) rfl) ?_
   refine B5 rfl rfl rfl rfl rfl ?_
   refine A4 (A3 (A3 (A2 ?_)))
   refine A5 rfl rfl rfl rfl rfl ?_
   refine A5 rfl rfl rfl rfl rfl ?_
   refine A1 rfl rfl rfl (M0 rfl (A0 rfl) (A0 rfl)) ?_
   refine A4 ?_
   refine C8 (A0 rfl) ?_ ?_
   ·intro h22
    have k22 := K3 h22; try simp only [A6] at k22
    refine A3 (A2 ?_)
    refine A5 rfl rfl rfl rfl rfl ?_
    refine A5 rfl rfl rfl rfl rfl ?_
    refine m8 (by' := 72) 0 rfl rfl rfl rfl D0 Tryz.type45 rfl rfl rfl rfl rfl rfl (A0 rfl) (Y5 1 rfl (A0 rfl)) (by simp) rfl (by simp only [A6, B2, B6]; omega) ?_
    intro v25
    refine B5 rfl rfl rfl rfl rfl ?_
    refine A4 ?_
    refine C7 ?_
    exact J6 [0] v25 (trivial) rfl (by exact congrArg (fun z => [Own.arr _ 45 5 z]) (by first | exact c0 hi (by simp) | exact X8 (by omega) | (have hil : i = l.length := (by omega); subst hil; simp; done) | (simp; done))) (N2 rfl (C3 rfl (by first | rfl | (rw [hn]))))
   ·intro h22
    have k22 := K2 h22; try simp only [A6] at k22
    exact absurd rfl k22
 ·intro g cap hv hlc hcm; subst hv
  refine e8 1 rfl (fun _ h => by cases h) ?_
  intro gv cv hvv _ _
  subst hvv
  refine A3 (A2 ?_)
  refine A1 rfl rfl rfl (C0 rfl K1) ?_
  refine A4 (A3 (A2 ?_))
  refine A5 rfl rfl rfl rfl rfl ?_
  refine A5 rfl rfl rfl rfl rfl ?_
  refine A1 rfl rfl rfl (V8 rfl D0 D3 (A0 rfl) (A0 rfl) (by first | omega | (simp only [A6, A8, B2, B6, A9, szR] at *; omega)) (by first | omega | (simp only [A6, A8, B2, B6, A9, szR] at *; omega))) ?_
  refine A4 (A3 (A2 ?_))
  refine A5 rfl rfl rfl rfl rfl ?_
  refine A1 rfl rfl rfl (j5 rfl D0 (A0 rfl)) ?_
  refine B5 rfl rfl rfl rfl rfl ?_
  refine A4 (A3 (A3 (A2 ?_)))
  refine A5 rfl rfl rfl rfl rfl ?_
  refine A1 rfl rfl rfl (M0 rfl (A0 rfl) C2) ?_
  refine A4 ?_
  refine C8 (A0 rfl) ?_ ?_
  ·intro h16
   have k16 := K3 h16; try simp only [A6] at k16
   rw [h1] at k16; omega
  ·intro h16
   have k16 := K2 h16; try simp only [A6] at k16
   refine D2 (A3 (A2 ?_))
   refine A5 rfl rfl rfl rfl rfl ?_
   refine A1 rfl rfl rfl (j5 rfl D0 (A0 rfl)) ?_
   refine B5 rfl rfl rfl rfl rfl ?_
   refine A4 (A3 (A3 (A2 ?_)))
   refine A5 rfl rfl rfl rfl rfl ?_
   refine A5 rfl rfl rfl rfl rfl ?_
   refine A1 rfl rfl rfl (M0 rfl (A0 rfl) (A0 rfl)) ?_
   refine A4 ?_
   refine C8 (A0 rfl) ?_ ?_
   ·intro h22
    have k22 := K3 h22; try simp only [A6] at k22
    refine A3 (A2 ?_)
    refine A5 rfl rfl rfl rfl rfl ?_
    refine A5 rfl rfl rfl rfl rfl ?_
    refine m8 (by' := 72) 0 rfl rfl rfl rfl D0 Tryz.type45 rfl rfl rfl rfl rfl rfl (A0 rfl) (Y5 1 rfl (A0 rfl)) (by simp) rfl (by simp only [A6, B2, B6]; omega) ?_
    intro v25
    refine B5 rfl rfl rfl rfl rfl ?_
    refine A4 ?_
    refine C7 ?_
    exact J6 [0] v25 (trivial) rfl (by exact congrArg (fun z => [Own.arr _ 45 5 z]) (by first | exact c0 hi (by simp) | exact X8 (by omega) | (have hil : i = l.length := (by omega); subst hil; simp; done) | (simp; done))) (N2 rfl (C3 rfl (by first | rfl | (rw [hn]))))
   ·intro h22
    have k22 := K2 h22; try simp only [A6] at k22
    refine D2 (A3 (A3 (A2 ?_)))
    refine A5 rfl rfl rfl rfl rfl ?_
    refine A5 rfl rfl rfl rfl rfl ?_
    refine A1 rfl rfl rfl (H0 rfl (A0 rfl) (A0 rfl) (by first | omega | (simp only [A6, A8, B2, B6, A9, szR] at *; omega))) ?_
    rw [e28]
    refine A5 rfl rfl rfl rfl rfl ?_
    refine A1 rfl rfl rfl (Ah5 rfl D0 (A0 rfl)) ?_
    refine A1 rfl rfl rfl (P1 rfl (A0 rfl) (A0 rfl)) ?_
    refine A4 ?_
    refine C8 (A0 rfl) ?_ ?_
    ·intro h31
     have k31 := of_decide_eq_true h31; try simp only [A6] at k31
     refine A3 (A2 ?_)
     refine A5 rfl rfl rfl rfl rfl ?_
     refine A5 rfl rfl rfl rfl rfl ?_
     refine A1 rfl rfl rfl (AH2 rfl D0 D3 (A0 rfl) (A0 rfl) (by omega) (by rw [hn] at hlc; omega)) ?_
     refine A5 rfl rfl rfl rfl rfl ?_
     refine A5 rfl rfl rfl rfl rfl ?_
     refine A1 rfl rfl rfl (H0 rfl (A0 rfl) (A0 rfl) (by first | omega | (simp only [A6, A8, B2, B6, A9, szR] at *; omega))) ?_
     rw [e28]
     refine A5 rfl rfl rfl rfl rfl ?_
     refine A1 rfl rfl rfl (P8 rfl (A0 rfl) (A0 rfl) (by first | omega | (simp only [A6, A8, B2, B6, A9, szR] at *; omega))) ?_
     rw [e39, Int.toNat_natCast]
     refine AH3 (by' := 72) (j := i) (m := l.length + 1 - i) 0 rfl rfl rfl rfl D0 S2 Tryz.type45 rfl rfl rfl rfl rfl rfl (A0 rfl) (A0 rfl) rfl (by rw [hn]; exact hi) (by omega) (by omega) (by omega) (by omega) ?_
     intro g2 cap2 hcap2
     refine B5 rfl rfl rfl rfl rfl ?_
     refine A4 (A3 (A2 ?_))
     refine A5 rfl rfl rfl rfl rfl ?_
     refine A5 rfl rfl rfl rfl rfl ?_
     refine A1 rfl rfl rfl (V8 rfl D0 D3 (A0 rfl) (A0 rfl) (by first | omega | (simp only [A6, A8, B2, B6, A9, szR] at *; omega)) (by first | omega | (simp only [A6, A8, B2, B6, A9, szR] at *; omega))) ?_
     refine A5 rfl rfl rfl rfl rfl ?_
     rw [Int.toNat_natCast]
     refine m7 (k := i) 0 rfl rfl rfl rfl D0 Tryz.type45 rfl (A0 rfl) (Y5 2 rfl (A0 rfl)) rfl (by rw [h1]; omega) (by rw [h1]; omega) hcap2 (by simp) ?_
     refine A4 (A3 ?_)
     refine Q7 8 (by kernel_rfl) (by kernel_rfl) rfl ?_
     refine B7 rfl rfl (C6 rfl (A0 rfl)) ?_
     refine B7 rfl rfl (C6 rfl (A0 rfl)) ?_
     refine B7 rfl rfl (C6 rfl (A0 rfl)) ?_
     refine B7 rfl rfl (H0 rfl (A0 rfl) (A0 rfl) (by first | omega | (simp only [A6, A8, B2, B6, A9, szR] at *; omega))) ?_
     rw [e49]
     refine B7 rfl rfl (V8 rfl D0 D3 (A0 rfl) (A0 rfl) (by first | omega | (simp only [A6, A8, B2, B6, A9, szR] at *; omega)) (by first | omega | (simp only [A6, A8, B2, B6, A9, szR] at *; omega))) ?_
     refine B7 rfl rfl (C6 rfl (A0 rfl)) ?_
     refine B7 rfl rfl (C6 rfl (A0 rfl)) ?_
     refine B7 rfl rfl (V8 rfl D0 D3 (A0 rfl) (A0 rfl) (by first | omega | (simp only [A6, A8, B2, B6, A9, szR] at *; omega)) (by first | omega | (simp only [A6, A8, B2, B6, A9, szR] at *; omega))) ?_
     refine P7 ?_
     simp only [Int.toNat_natCast]
     refine m7 (k := i + 1) 0 rfl rfl rfl rfl D0 Tryz.type45 rfl (A0 rfl) (AO3 1 rfl (A0 rfl)) rfl (by rw [List.length_drop, hn]; omega) (by rw [List.length_drop, hn]; omega) hcap2 (by intro h; have := congrArg List.length h; rw [List.length_drop, hn] at this; simp at this; omega) ?_
     refine A4 (A3 (A2 ?_))
     refine A5 rfl rfl rfl rfl rfl ?_
     refine B5 rfl rfl rfl rfl rfl ?_
     refine A4 ?_
     refine C7 ?_
     exact J6 [0] (slv g2 (i + (l.length + 1 - i)) cap2) (trivial) rfl (by exact congrArg (fun z => [Own.arr _ 45 5 z]) (by first | exact c0 hi (by simp) | exact X8 (by omega) | (have hil : i = l.length := (by omega); subst hil; simp; done) | (simp; done))) (N2 rfl (C3 rfl (by first | rfl | (rw [hn]))))
    ·intro h31
     have k31 := of_decide_eq_false h31; try simp only [A6] at k31
     refine D2 (A3 (A2 ?_))
     refine A5 rfl rfl rfl rfl rfl ?_
     refine A5 rfl rfl rfl rfl rfl ?_
     refine A5 rfl rfl rfl rfl rfl ?_
     refine A1 rfl rfl rfl (H0 rfl (A0 rfl) (A0 rfl) (by first | omega | (simp only [A6, A8, B2, B6, A9, szR] at *; omega))) ?_
     rw [e28]
     refine A1 rfl rfl rfl (AH2 rfl D0 D3 (A0 rfl) (A0 rfl) (by first | omega | (simp only [A6, A8, B2, B6, A9, szR] at *; omega)) (by first | omega | (simp only [A6, A8, B2, B6, A9, szR] at *; omega))) ?_
     rw [Int.toNat_natCast]
     refine B5 rfl rfl rfl rfl rfl ?_
     refine A4 (A3 (A3 (A2 ?_)))
     refine A5 rfl rfl rfl rfl rfl ?_
     refine A5 rfl rfl rfl rfl rfl ?_
     refine A5 rfl rfl rfl rfl rfl ?_
     refine A5 rfl rfl rfl rfl rfl ?_
     refine A1 rfl rfl rfl (H0 rfl (A0 rfl) (A0 rfl) (by first | omega | (simp only [A6, A8, B2, B6, A9, szR] at *; omega))) ?_
     rw [e49]
     refine A1 rfl rfl rfl (V8 rfl D0 D3 (A0 rfl) (A0 rfl) (by first | omega | (simp only [A6, A8, B2, B6, A9, szR] at *; omega)) (by first | omega | (simp only [A6, A8, B2, B6, A9, szR] at *; omega))) ?_
     rw [Int.toNat_natCast]
     refine A1 rfl rfl rfl (AE1 (tb := 4) 1 0 rfl Tryz.func258 (by kernel_rfl) (by kernel_rfl) (by kernel_rfl) (by kernel_rfl) D0 D3 (A0 rfl) (A0 rfl) rfl rfl rfl (by omega) rfl) ?_
     refine A1 rfl rfl rfl (J7 rfl (A0 rfl)) ?_
     refine A4 ?_
     refine C8 (A0 rfl) ?_ ?_
     ·intro h68
      refine A3 ?_
      refine Q7 8 (by kernel_rfl) (by kernel_rfl) rfl ?_
      refine B7 rfl rfl (C6 rfl (A0 rfl)) ?_
      refine B7 rfl rfl (C6 rfl (A0 rfl)) ?_
      refine B7 rfl rfl (C6 rfl (A0 rfl)) ?_
      refine B7 rfl rfl (H0 rfl (A0 rfl) (A0 rfl) (by first | omega | (simp only [A6, A8, B2, B6, A9, szR] at *; omega))) ?_
      rw [e49]
      refine B7 rfl rfl (V8 rfl D0 D3 (A0 rfl) (A0 rfl) (by first | omega | (simp only [A6, A8, B2, B6, A9, szR] at *; omega)) (by first | omega | (simp only [A6, A8, B2, B6, A9, szR] at *; omega))) ?_
      refine B7 rfl rfl (C6 rfl (A0 rfl)) ?_
      refine B7 rfl rfl (C6 rfl (A0 rfl)) ?_
      refine B7 rfl rfl (V8 rfl D0 D3 (A0 rfl) (A0 rfl) (by first | omega | (simp only [A6, A8, B2, B6, A9, szR] at *; omega)) (by first | omega | (simp only [A6, A8, B2, B6, A9, szR] at *; omega))) ?_
      refine P7 ?_
      simp only [Int.toNat_natCast]
      refine AS2 (k := i) (len := (l.map THeld.cs).length) 0 rfl rfl rfl rfl D0 Tryz.type45 rfl (by rw [hn]; exact A0 rfl) (by rw [hn]; exact A0 rfl) rfl (by omega) (by omega) ?_
      intro j77
      refine A4 (A3 (A2 ?_))
      refine A5 rfl rfl rfl rfl rfl ?_
      refine A5 rfl rfl rfl rfl rfl ?_
      refine A1 rfl rfl rfl (V8 rfl D0 D3 (A0 rfl) (A0 rfl) (by first | omega | (simp only [A6, A8, B2, B6, A9, szR] at *; omega)) (by first | omega | (simp only [A6, A8, B2, B6, A9, szR] at *; omega))) ?_
      refine A5 rfl rfl rfl rfl rfl ?_
      rw [Int.toNat_natCast]
      refine m7 (k := i) 0 rfl rfl rfl rfl D0 Tryz.type45 rfl (A0 rfl) (Y5 1 rfl (A0 rfl)) rfl (by rw [h1, hn]; omega) (by rw [h1]; omega) (by omega) (by simp) ?_
      refine A4 (A3 (A2 ?_))
      refine A5 rfl rfl rfl rfl rfl ?_
      refine B5 rfl rfl rfl rfl rfl ?_
      refine A4 ?_
      refine C7 ?_
      exact J6 [0] (slv g ((l.map THeld.cs).length + 1) cap) (trivial) rfl (by exact congrArg (fun z => [Own.arr _ 45 5 z]) (by first | exact c0 hi (by simp) | exact X8 (by omega) | (have hil : i = l.length := (by omega); subst hil; simp; done) | (simp; done))) (N2 rfl (C3 rfl (by first | rfl | (rw [hn]))))
     ·intro h68
      cases h68
theorem n4 (v vv : Value) (l : List TTold) (x : TTold) (i : Nat) (hi : i ≤ l.length) (hl : l.length ≤ 4194304) : GSpec Tryz.prog 257 [AV.is v, AV.int i, AV.is vv] [.arr v 39 3 (l.map TTold.cs), .arr vv 39 3 [TTold.cs x]] (fun _ : Value => True) (fun v => [.arr v 39 3 ((l.take i ++ x :: l.drop i).map TTold.cs)]) (fun v => AV.is v) := by
 have hn : (l.map TTold.cs).length = l.length := A6 _
 have h1 : ([TTold.cs x] : List (List AV)).length = 1 := rfl
 have e28 : ((l.map TTold.cs).length : Int) + (([TTold.cs x] : List (List AV)).length : Int) = ((l.length + 1 : Nat) : Int) := by rw [hn, h1]; rfl
 have e49 : (i : Int) + (([TTold.cs x] : List (List AV)).length : Int) = ((i + 1 : Nat) : Int) := by rw [h1]; rfl
 have e39 : ((l.length + 1 : Nat) : Int) - (i : Int) = ((l.length + 1 - i : Nat) : Int) := by omega
 refine H7 Tryz.func257 rfl Tryz.ntmps257 rfl ?_
 refine e8 0 rfl ?_ ?_
 ·intro hv hes; subst hv
  have hl0 : l = [] := by cases l with | nil => rfl | cons y l => (simp at hes)
  subst hl0
  have hi0 : i = 0 := by simpa using hi
  subst hi0
  refine e8 1 rfl (fun _ h => by cases h) ?_
  intro gv cv hvv _ _
  subst hvv
  refine A3 (A2 ?_)
  refine A1 rfl rfl rfl (C0 rfl K1) ?_
  refine A4 (A3 (A2 ?_))
  refine A5 rfl rfl rfl rfl rfl ?_
  refine A5 rfl rfl rfl rfl rfl ?_
  refine A1 rfl rfl rfl (AO2 0 rfl E6 G7 (A0 rfl) rfl (A0 rfl) (by first | omega | (simp only [A6, A8, B2, B6, A9, szR] at *; omega)) (by first | omega | (simp only [A6, A8, B2, B6, A9, szR] at *; omega))) ?_
  refine A4 (A3 (A2 ?_))
  refine A5 rfl rfl rfl rfl rfl ?_
  refine A1 rfl rfl rfl (j5 rfl E6 (A0 rfl)) ?_
  refine B5 rfl rfl rfl rfl rfl ?_
  refine A4 (A3 (A3 (A2 ?_)))
  refine A5 rfl rfl rfl rfl rfl ?_
  refine A1 rfl rfl rfl (M0 rfl (A0 rfl) C2) ?_
  refine A4 ?_
  refine C8 (A0 rfl) ?_ ?_
  ·intro h16
   have k16 := K3 h16; try simp only [A6] at k16
   rw [h1] at k16; omega
  ·intro h16
   have k16 := K2 h16; try simp only [A6] at k16
   refine D2 (A3 (A2 ?_))
   refine A5 rfl rfl rfl rfl rfl ?_
   refine A1 rfl rfl rfl (U1 0 rfl E6 (A0 rfl) rfl) ?_
   refine B5 rfl rfl rfl rfl rfl ?_
   refine A4 (A3 (A3 (A2 ?_)))
   refine A5 rfl rfl rfl rfl rfl ?_
   refine A5 rfl rfl rfl rfl rfl ?_
   refine A1 rfl rfl rfl (M0 rfl (A0 rfl) (A0 rfl)) ?_
   refine A4 ?_
   refine C8 (A0 rfl) ?_ ?_
   ·intro h22
    have k22 := K3 h22; try simp only [A6] at k22
    refine A3 (A2 ?_)
    refine A5 rfl rfl rfl rfl rfl ?_
    refine A5 rfl rfl rfl rfl rfl ?_
    refine m8 (by' := 24) 0 rfl rfl rfl rfl E6 Tryz.type39 rfl rfl rfl rfl rfl rfl (A0 rfl) (Y5 1 rfl (A0 rfl)) (by simp) rfl (by simp only [A6, B2, B6]; omega) ?_
    intro v25
    refine B5 rfl rfl rfl rfl rfl ?_
    refine A4 ?_
    refine C7 ?_
    exact J6 [0] v25 (trivial) rfl (by exact congrArg (fun z => [Own.arr _ 39 3 z]) (by first | exact c0 hi (by simp) | exact X8 (by omega) | (have hil : i = l.length := (by omega); subst hil; simp; done) | (simp; done))) (N2 rfl (C3 rfl (by first | rfl | (rw [hn]))))
   ·intro h22
    have k22 := K2 h22; try simp only [A6] at k22
    exact absurd rfl k22
 ·intro g cap hv hlc hcm; subst hv
  refine e8 1 rfl (fun _ h => by cases h) ?_
  intro gv cv hvv _ _
  subst hvv
  refine A3 (A2 ?_)
  refine A1 rfl rfl rfl (C0 rfl K1) ?_
  refine A4 (A3 (A2 ?_))
  refine A5 rfl rfl rfl rfl rfl ?_
  refine A5 rfl rfl rfl rfl rfl ?_
  refine A1 rfl rfl rfl (V8 rfl E6 G7 (A0 rfl) (A0 rfl) (by first | omega | (simp only [A6, A8, B2, B6, A9, szR] at *; omega)) (by first | omega | (simp only [A6, A8, B2, B6, A9, szR] at *; omega))) ?_
  refine A4 (A3 (A2 ?_))
  refine A5 rfl rfl rfl rfl rfl ?_
  refine A1 rfl rfl rfl (j5 rfl E6 (A0 rfl)) ?_
  refine B5 rfl rfl rfl rfl rfl ?_
  refine A4 (A3 (A3 (A2 ?_)))
  refine A5 rfl rfl rfl rfl rfl ?_
  refine A1 rfl rfl rfl (M0 rfl (A0 rfl) C2) ?_
  refine A4 ?_
  refine C8 (A0 rfl) ?_ ?_
  ·intro h16
   have k16 := K3 h16; try simp only [A6] at k16
   rw [h1] at k16; omega
  ·intro h16
   have k16 := K2 h16; try simp only [A6] at k16
   refine D2 (A3 (A2 ?_))
   refine A5 rfl rfl rfl rfl rfl ?_
   refine A1 rfl rfl rfl (j5 rfl E6 (A0 rfl)) ?_
   refine B5 rfl rfl rfl rfl rfl ?_
   refine A4 (A3 (A3 (A2 ?_)))
   refine A5 rfl rfl rfl rfl rfl ?_
   refine A5 rfl rfl rfl rfl rfl ?_
   refine A1 rfl rfl rfl (M0 rfl (A0 rfl) (A0 rfl)) ?_
   refine A4 ?_
   refine C8 (A0 rfl) ?_ ?_
   ·intro h22
    have k22 := K3 h22; try simp only [A6] at k22
    refine A3 (A2 ?_)
    refine A5 rfl rfl rfl rfl rfl ?_
    refine A5 rfl rfl rfl rfl rfl ?_
    refine m8 (by' := 24) 0 rfl rfl rfl rfl E6 Tryz.type39 rfl rfl rfl rfl rfl rfl (A0 rfl) (Y5 1 rfl (A0 rfl)) (by simp) rfl (by simp only [A6, B2, B6]; omega) ?_
    intro v25
    refine B5 rfl rfl rfl rfl rfl ?_
    refine A4 ?_
    refine C7 ?_
    exact J6 [0] v25 (trivial) rfl (by exact congrArg (fun z => [Own.arr _ 39 3 z]) (by first | exact c0 hi (by simp) | exact X8 (by omega) | (have hil : i = l.length := (by omega); subst hil; simp; done) | (simp; done))) (N2 rfl (C3 rfl (by first | rfl | (rw [hn]))))
   ·intro h22
    have k22 := K2 h22; try simp only [A6] at k22
    refine D2 (A3 (A3 (A2 ?_)))
    refine A5 rfl rfl rfl rfl rfl ?_
    refine A5 rfl rfl rfl rfl rfl ?_
    refine A1 rfl rfl rfl (H0 rfl (A0 rfl) (A0 rfl) (by first | omega | (simp only [A6, A8, B2, B6, A9, szR] at *; omega))) ?_
    rw [e28]
    refine A5 rfl rfl rfl rfl rfl ?_
    refine A1 rfl rfl rfl (Ah5 rfl E6 (A0 rfl)) ?_
    refine A1 rfl rfl rfl (P1 rfl (A0 rfl) (A0 rfl)) ?_
    refine A4 ?_
    refine C8 (A0 rfl) ?_ ?_
    ·intro h31
     have k31 := of_decide_eq_true h31; try simp only [A6] at k31
     refine A3 (A2 ?_)
     refine A5 rfl rfl rfl rfl rfl ?_
     refine A5 rfl rfl rfl rfl rfl ?_
     refine A1 rfl rfl rfl (AH2 rfl E6 G7 (A0 rfl) (A0 rfl) (by omega) (by rw [hn] at hlc; omega)) ?_
     refine A5 rfl rfl rfl rfl rfl ?_
     refine A5 rfl rfl rfl rfl rfl ?_
     refine A1 rfl rfl rfl (H0 rfl (A0 rfl) (A0 rfl) (by first | omega | (simp only [A6, A8, B2, B6, A9, szR] at *; omega))) ?_
     rw [e28]
     refine A5 rfl rfl rfl rfl rfl ?_
     refine A1 rfl rfl rfl (P8 rfl (A0 rfl) (A0 rfl) (by first | omega | (simp only [A6, A8, B2, B6, A9, szR] at *; omega))) ?_
     rw [e39, Int.toNat_natCast]
     refine AH3 (by' := 24) (j := i) (m := l.length + 1 - i) 0 rfl rfl rfl rfl E6 S2 Tryz.type39 rfl rfl rfl rfl rfl rfl (A0 rfl) (A0 rfl) rfl (by rw [hn]; exact hi) (by omega) (by omega) (by omega) (by omega) ?_
     intro g2 cap2 hcap2
     refine B5 rfl rfl rfl rfl rfl ?_
     refine A4 (A3 (A2 ?_))
     refine A5 rfl rfl rfl rfl rfl ?_
     refine A5 rfl rfl rfl rfl rfl ?_
     refine A1 rfl rfl rfl (V8 rfl E6 G7 (A0 rfl) (A0 rfl) (by first | omega | (simp only [A6, A8, B2, B6, A9, szR] at *; omega)) (by first | omega | (simp only [A6, A8, B2, B6, A9, szR] at *; omega))) ?_
     refine A5 rfl rfl rfl rfl rfl ?_
     rw [Int.toNat_natCast]
     refine m7 (k := i) 0 rfl rfl rfl rfl E6 Tryz.type39 rfl (A0 rfl) (Y5 2 rfl (A0 rfl)) rfl (by rw [h1]; omega) (by rw [h1]; omega) hcap2 (by simp) ?_
     refine A4 (A3 ?_)
     refine Q7 8 (by kernel_rfl) (by kernel_rfl) rfl ?_
     refine B7 rfl rfl (C6 rfl (A0 rfl)) ?_
     refine B7 rfl rfl (C6 rfl (A0 rfl)) ?_
     refine B7 rfl rfl (C6 rfl (A0 rfl)) ?_
     refine B7 rfl rfl (H0 rfl (A0 rfl) (A0 rfl) (by first | omega | (simp only [A6, A8, B2, B6, A9, szR] at *; omega))) ?_
     rw [e49]
     refine B7 rfl rfl (V8 rfl E6 G7 (A0 rfl) (A0 rfl) (by first | omega | (simp only [A6, A8, B2, B6, A9, szR] at *; omega)) (by first | omega | (simp only [A6, A8, B2, B6, A9, szR] at *; omega))) ?_
     refine B7 rfl rfl (C6 rfl (A0 rfl)) ?_
     refine B7 rfl rfl (C6 rfl (A0 rfl)) ?_
     refine B7 rfl rfl (V8 rfl E6 G7 (A0 rfl) (A0 rfl) (by first | omega | (simp only [A6, A8, B2, B6, A9, szR] at *; omega)) (by first | omega | (simp only [A6, A8, B2, B6, A9, szR] at *; omega))) ?_
     refine P7 ?_
     simp only [Int.toNat_natCast]
     refine m7 (k := i + 1) 0 rfl rfl rfl rfl E6 Tryz.type39 rfl (A0 rfl) (AO3 1 rfl (A0 rfl)) rfl (by rw [List.length_drop, hn]; omega) (by rw [List.length_drop, hn]; omega) hcap2 (by intro h; have := congrArg List.length h; rw [List.length_drop, hn] at this; simp at this; omega) ?_
     refine A4 (A3 (A2 ?_))
     refine A5 rfl rfl rfl rfl rfl ?_
     refine B5 rfl rfl rfl rfl rfl ?_
     refine A4 ?_
     refine C7 ?_
     exact J6 [0] (slv g2 (i + (l.length + 1 - i)) cap2) (trivial) rfl (by exact congrArg (fun z => [Own.arr _ 39 3 z]) (by first | exact c0 hi (by simp) | exact X8 (by omega) | (have hil : i = l.length := (by omega); subst hil; simp; done) | (simp; done))) (N2 rfl (C3 rfl (by first | rfl | (rw [hn]))))
    ·intro h31
     have k31 := of_decide_eq_false h31; try simp only [A6] at k31
     refine D2 (A3 (A2 ?_))
     refine A5 rfl rfl rfl rfl rfl ?_
     refine A5 rfl rfl rfl rfl rfl ?_
     refine A5 rfl rfl rfl rfl rfl ?_
     refine A1 rfl rfl rfl (H0 rfl (A0 rfl) (A0 rfl) (by first | omega | (simp only [A6, A8, B2, B6, A9, szR] at *; omega))) ?_
     rw [e28]
     refine A1 rfl rfl rfl (AH2 rfl E6 G7 (A0 rfl) (A0 rfl) (by first | omega | (simp only [A6, A8, B2, B6, A9, szR] at *; omega)) (by first | omega | (simp only [A6, A8, B2, B6, A9, szR] at *; omega))) ?_
     rw [Int.toNat_natCast]
     refine B5 rfl rfl rfl rfl rfl ?_
     refine A4 (A3 (A3 (A2 ?_)))
     refine A5 rfl rfl rfl rfl rfl ?_
     refine A5 rfl rfl rfl rfl rfl ?_
     refine A5 rfl rfl rfl rfl rfl ?_
     refine A5 rfl rfl rfl rfl rfl ?_
     refine A1 rfl rfl rfl (H0 rfl (A0 rfl) (A0 rfl) (by first | omega | (simp only [A6, A8, B2, B6, A9, szR] at *; omega))) ?_
     rw [e49]
     refine A1 rfl rfl rfl (V8 rfl E6 G7 (A0 rfl) (A0 rfl) (by first | omega | (simp only [A6, A8, B2, B6, A9, szR] at *; omega)) (by first | omega | (simp only [A6, A8, B2, B6, A9, szR] at *; omega))) ?_
     rw [Int.toNat_natCast]
     refine A1 rfl rfl rfl (AE1 (tb := 4) 1 0 rfl Tryz.func286 (by kernel_rfl) (by kernel_rfl) (by kernel_rfl) (by kernel_rfl) E6 G7 (A0 rfl) (A0 rfl) rfl rfl rfl (by omega) rfl) ?_
     refine A1 rfl rfl rfl (J7 rfl (A0 rfl)) ?_
     refine A4 ?_
     refine C8 (A0 rfl) ?_ ?_
     ·intro h68
      refine A3 ?_
      refine Q7 8 (by kernel_rfl) (by kernel_rfl) rfl ?_
      refine B7 rfl rfl (C6 rfl (A0 rfl)) ?_
      refine B7 rfl rfl (C6 rfl (A0 rfl)) ?_
      refine B7 rfl rfl (C6 rfl (A0 rfl)) ?_
      refine B7 rfl rfl (H0 rfl (A0 rfl) (A0 rfl) (by first | omega | (simp only [A6, A8, B2, B6, A9, szR] at *; omega))) ?_
      rw [e49]
      refine B7 rfl rfl (V8 rfl E6 G7 (A0 rfl) (A0 rfl) (by first | omega | (simp only [A6, A8, B2, B6, A9, szR] at *; omega)) (by first | omega | (simp only [A6, A8, B2, B6, A9, szR] at *; omega))) ?_
      refine B7 rfl rfl (C6 rfl (A0 rfl)) ?_
      refine B7 rfl rfl (C6 rfl (A0 rfl)) ?_
      refine B7 rfl rfl (V8 rfl E6 G7 (A0 rfl) (A0 rfl) (by first | omega | (simp only [A6, A8, B2, B6, A9, szR] at *; omega)) (by first | omega | (simp only [A6, A8, B2, B6, A9, szR] at *; omega))) ?_
      refine P7 ?_
      simp only [Int.toNat_natCast]
      refine AS2 (k := i) (len := (l.map TTold.cs).length) 0 rfl rfl rfl rfl E6 Tryz.type39 rfl (by rw [hn]; exact A0 rfl) (by rw [hn]; exact A0 rfl) rfl (by omega) (by omega) ?_
      intro j77
      refine A4 (A3 (A2 ?_))
      refine A5 rfl rfl rfl rfl rfl ?_
      refine A5 rfl rfl rfl rfl rfl ?_
      refine A1 rfl rfl rfl (V8 rfl E6 G7 (A0 rfl) (A0 rfl) (by first | omega | (simp only [A6, A8, B2, B6, A9, szR] at *; omega)) (by first | omega | (simp only [A6, A8, B2, B6, A9, szR] at *; omega))) ?_
      refine A5 rfl rfl rfl rfl rfl ?_
      rw [Int.toNat_natCast]
      refine m7 (k := i) 0 rfl rfl rfl rfl E6 Tryz.type39 rfl (A0 rfl) (Y5 1 rfl (A0 rfl)) rfl (by rw [h1, hn]; omega) (by rw [h1]; omega) (by omega) (by simp) ?_
      refine A4 (A3 (A2 ?_))
      refine A5 rfl rfl rfl rfl rfl ?_
      refine B5 rfl rfl rfl rfl rfl ?_
      refine A4 ?_
      refine C7 ?_
      exact J6 [0] (slv g ((l.map TTold.cs).length + 1) cap) (trivial) rfl (by exact congrArg (fun z => [Own.arr _ 39 3 z]) (by first | exact c0 hi (by simp) | exact X8 (by omega) | (have hil : i = l.length := (by omega); subst hil; simp; done) | (simp; done))) (N2 rfl (C3 rfl (by first | rfl | (rw [hn]))))
     ·intro h68
      cases h68
theorem AF8 (v : Value) (l : List THeld) (i : Nat) (hi : i < l.length) (hl : l.length ≤ 4194304) : GSpec Tryz.prog 256 [AV.is v, AV.int i, AV.int ((i : Int) + 1)] [.arr v 45 5 (l.map THeld.cs)] (fun _ : Value => True) (fun v => [.arr v 45 5 ((l.eraseIdx i).map THeld.cs)]) (fun v => AV.is v) := by
 have hn : (l.map THeld.cs).length = l.length := A6 _
 refine H7 Tryz.func256 rfl Tryz.ntmps256 rfl ?_
 refine e8 0 rfl ?_ ?_
 ·intro hv hes; subst hv
  have h0 : l.length = 0 := (by rw [← hn, hes]; rfl); omega
 ·intro g cap hv hlc hcm; subst hv
  refine A3 (A2 ?_)
  refine A1 rfl rfl rfl (C0 rfl K1) ?_
  refine A4 (A3 (A2 ?_))
  refine A5 rfl rfl rfl rfl rfl ?_
  refine A5 rfl rfl rfl rfl rfl ?_
  refine A5 rfl rfl rfl rfl rfl ?_
  refine A5 rfl rfl rfl rfl rfl ?_
  refine A1 rfl rfl rfl (j5 rfl D0 (A0 rfl)) ?_
  refine A1 rfl rfl rfl (w_v3 rfl D0 D3 (A0 rfl) (A0 rfl) (A0 rfl) (A0 rfl) (by omega) (by omega) (by omega) (by omega)) ?_
  refine A4 (A3 (A3 (A2 ?_)))
  refine A5 rfl rfl rfl rfl rfl ?_
  refine A5 rfl rfl rfl rfl rfl ?_
  refine A1 rfl rfl rfl (M0 rfl (A0 rfl) (A0 rfl)) ?_
  refine A4 ?_
  refine C8 (A0 rfl) ?_ ?_
  ·intro h16
   have k16 := K3 h16; try simp only [A6] at k16
   omega
  ·intro h16
   have k16 := K2 h16; try simp only [A6] at k16
   refine D2 (A3 (A2 ?_))
   refine A5 rfl rfl rfl rfl rfl ?_
   refine A1 rfl rfl rfl (j5 rfl D0 (A0 rfl)) ?_
   refine B5 rfl rfl rfl rfl rfl ?_
   refine A4 (A3 ?_)
   refine Q7 6 (by kernel_rfl) (by kernel_rfl) rfl ?_
   refine B7 rfl rfl (C6 rfl (A0 rfl)) ?_
   refine B7 rfl rfl (C6 rfl (A0 rfl)) ?_
   refine B7 rfl rfl (AH2 rfl D0 D3 (A0 rfl) (A0 rfl) (by omega) (by omega)) ?_
   refine B7 rfl rfl (C6 rfl (A0 rfl)) ?_
   refine B7 rfl rfl (C6 rfl (A0 rfl)) ?_
   refine B7 rfl rfl (V8 rfl D0 D3 (A0 rfl) (A0 rfl) (by omega) (by omega)) ?_
   refine P7 ?_
   rw [show ((i : Int) + 1).toNat = i + 1 by omega, Int.toNat_natCast]
   refine Av8 (k := i) (j := i + 1) 0 rfl rfl rfl rfl D0 Tryz.type45 rfl (A0 rfl) (A0 rfl) rfl (by omega) (by omega) ?_
   refine B5 rfl rfl rfl rfl rfl ?_
   refine A4 (A3 (A2 ?_))
   refine A5 rfl rfl rfl rfl rfl ?_
   refine A5 rfl rfl rfl rfl rfl ?_
   refine A1 rfl rfl rfl (j5 rfl D0 (A0 rfl)) ?_
   refine A5 rfl rfl rfl rfl rfl ?_
   refine A1 rfl rfl rfl (w_vlohi rfl D0 D3 (A0 rfl) (A0 rfl) (A0 rfl) (by omega) (by omega) (by omega)) ?_
   simp only [Int.toNat_natCast]
   refine Av9 0 rfl rfl rfl D0 Tryz.zeroValue45 rfl rfl rfl (A0 rfl) rfl (by omega) (by omega) (by omega) ?_
   refine A4 (A3 (A2 ?_))
   refine A5 rfl rfl rfl rfl rfl ?_
   refine B5 rfl rfl rfl rfl rfl ?_
   refine A4 ?_
   refine C7 ?_
   exact J6 [0] (slv g (i + ((l.map THeld.cs).length - (i + 1))) cap) (trivial) rfl (by exact congrArg (fun z => [Own.arr _ 45 5 z]) (by simp [List.eraseIdx_eq_take_drop_succ, List.map_take, List.map_drop])) (N2 rfl (C3 rfl (by first | rfl | (refine congrArg AV.bool ?_; simp_all; done))))
end Go.Proofs.YtnlhbdkcgaeimaaGreat

set_option linter.unusedVariables false
set_option linter.unusedSimpArgs false
set_option maxRecDepth 100000
namespace Go.Proofs.YtnlhbdkcgaeimaaGreat
open Go Go.AV Go.M
attribute [local irreducible] OpW OpA OpS AWP FSpec ESpec RetOk RvDen Le Ev GuardIs
theorem k6 (t : Int) : FSpec Tryz.prog 134 [AV.int t] (AV.bool (isTime t)) := by
 refine E7 Tryz.func134 rfl Tryz.ntmps134 rfl ?_
 refine A3 (A2 ?_)
 refine A1 rfl rfl rfl (C0 rfl F3) ?_
 refine A4 (A3 (A2 ?_))
 refine A5 rfl rfl rfl rfl rfl ?_
 refine A1 rfl rfl rfl (E5 rfl Tryz.call94 rfl (f4 _ _ _) (A7 (A0 rfl) (A7 C2 (A7 C2 C9)))) ?_
 refine B5 rfl rfl rfl rfl rfl ?_
 refine A4 ?_
 refine C7 ?_
 exact I2 rfl (C3 rfl (by first | rfl | (refine congrArg AV.bool ?_; simp_all; done)))
theorem AJ4 (s : Str) (g : Bool) (hs : s.length ≤ 4611686018427387904) : FSpec Tryz.prog 242 [AV.str s, AV.bool g] (AV.bool (isStored s g)) := by
 refine E7 Tryz.func242 rfl Tryz.ntmps242 rfl ?_
 refine A3 (A2 ?_)
 refine A1 rfl rfl rfl (C0 rfl F3) ?_
 refine A4 (A3 (A2 ?_))
 refine A5 rfl rfl rfl rfl rfl ?_
 refine A1 rfl rfl rfl (E5 rfl Tryz.call277 rfl (Aj5 _ (by omega)) (A7 (A0 rfl) C9)) ?_
 refine A5 rfl rfl rfl rfl rfl ?_
 refine B1 rfl rfl (B9 rfl rfl rfl) (fun hc => C6 rfl (A0 rfl)) ?_
 refine B1 rfl rfl (B9 rfl rfl rfl) (fun hc => C6 rfl (B0 rfl hc)) ?_
 refine B1 rfl rfl (E2 rfl rfl rfl) (fun hc => C6 rfl (A0 rfl)) ?_
 refine B1 rfl rfl (E2 rfl rfl rfl) (fun hc => AU5 rfl (B0 rfl hc) (P0 (l := []) rfl)) ?_
 refine B1 rfl rfl (B9 rfl rfl rfl) (fun hc => I3 rfl (B0 rfl hc) (P4 rfl hc)) ?_
 refine B1 rfl rfl (B9 rfl rfl rfl) (fun hc => J7 rfl (B0 rfl hc)) ?_
 refine A1 rfl rfl rfl (I3 rfl (A0 rfl) (G0 rfl)) ?_
 refine B5 rfl rfl rfl rfl rfl ?_
 refine A4 ?_
 refine C7 ?_
 exact I2 rfl (C3 rfl (by first | rfl | (refine congrArg AV.bool ?_; simp_all; done)))
theorem At0 (s : Str) (hs : s.length ≤ 4611686018427387904) : FSpec Tryz.prog 276 [AV.str s] (AV.bool (l3Val s)) := by
 refine E7 Tryz.func276 rfl Tryz.ntmps276 rfl ?_
 refine A3 (A2 ?_)
 refine A1 rfl rfl rfl (C0 rfl F3) ?_
 refine A4 (A3 (A2 ?_))
 refine A5 rfl rfl rfl rfl rfl ?_
 refine A1 rfl rfl rfl (AB4 rfl P2 (A0 rfl)) ?_
 refine A1 rfl rfl rfl (T6 rfl (A0 rfl) C2) ?_
 refine A5 rfl rfl rfl rfl rfl ?_
 refine B1 rfl rfl (B9 rfl rfl rfl) (fun hc => C6 rfl (A0 rfl)) ?_
 refine B1 rfl rfl (B9 rfl rfl rfl) (fun hc => E5 rfl Tryz.call217 rfl (AM3 _ _ (by omega) (by decide)) (A7 (B0 rfl hc) (A7 (P0 (l := [46, 45, 44, 95]) rfl) C9))) ?_
 refine A1 rfl rfl rfl (I3 rfl (A0 rfl) (G0 rfl)) ?_
 refine B5 rfl rfl rfl rfl rfl ?_
 refine A4 ?_
 refine C7 ?_
 exact I2 rfl (C3 rfl (by first | rfl | (refine congrArg AV.bool ?_; simp_all; done)))
theorem AM5 (k s : Str) (g : Bool) (hk : k.length ≤ 4611686018427387904) (hs : s.length ≤ 4611686018427387904) : FSpec Tryz.prog 235 [AV.str k, AV.str s, AV.bool g] (AV.bool (l3Write k s g)) := by
 refine E7 Tryz.func235 rfl Tryz.ntmps235 rfl ?_
 refine A3 (A2 ?_)
 refine A1 rfl rfl rfl (C0 rfl F3) ?_
 refine A4 (A3 (A2 ?_))
 refine A5 rfl rfl rfl rfl rfl ?_
 refine A1 rfl rfl rfl (E5 rfl Tryz.call119 rfl (AI4 _ (by omega)) (A7 (A0 rfl) C9)) ?_
 refine A5 rfl rfl rfl rfl rfl ?_
 refine B1 rfl rfl (B9 rfl rfl rfl) (fun hc => C6 rfl (A0 rfl)) ?_
 refine B1 rfl rfl (B9 rfl rfl rfl) (fun hc => E5 rfl Tryz.call276 rfl (At0 _ (by omega)) (A7 (B0 rfl hc) C9)) ?_
 refine A1 rfl rfl rfl (I3 rfl (A0 rfl) (G0 rfl)) ?_
 refine A5 rfl rfl rfl rfl rfl ?_
 refine B1 rfl rfl (B9 rfl rfl rfl) (fun hc => C6 rfl (A0 rfl)) ?_
 refine B1 rfl rfl (B9 rfl rfl rfl) (fun hc => J7 rfl (B0 rfl hc)) ?_
 refine B1 rfl rfl (B9 rfl rfl rfl) (fun hc => C6 rfl (B0 rfl hc)) ?_
 refine B1 rfl rfl (N1 rfl rfl rfl) (fun hc => C6 rfl (A0 rfl)) ?_
 refine B1 rfl rfl (N1 rfl rfl rfl) (fun hc => w4 rfl (B0 rfl hc) (P0 (l := []) rfl)) ?_
 refine B1 rfl rfl (B9 rfl rfl rfl) (fun hc => P5 rfl (B0 rfl hc) (P4 rfl hc)) ?_
 refine A1 rfl rfl rfl (I3 rfl (A0 rfl) (G0 rfl)) ?_
 refine B5 rfl rfl rfl rfl rfl ?_
 refine A4 ?_
 refine C7 ?_
 exact I2 rfl (C3 rfl (by first | rfl | (refine congrArg AV.bool ?_; simp_all; done)))
theorem AJ5 (t : Int) : FSpec Tryz.prog 251 [AV.int t] (AV.bool false) := by
 refine E7 Tryz.func251 rfl Tryz.ntmps251 rfl ?_
 refine A3 (A2 ?_)
 refine A1 rfl rfl rfl (C0 rfl F3) ?_
 refine A4 (A3 (A2 ?_))
 refine A5 rfl rfl rfl rfl rfl ?_
 refine A5 rfl rfl rfl rfl rfl ?_
 refine A1 rfl rfl rfl (AG4 rfl (A0 rfl) (A0 rfl)) ?_
 refine B5 rfl rfl rfl rfl rfl ?_
 refine A4 ?_
 refine C7 ?_
 exact I2 rfl (C3 rfl (by exact congrArg AV.bool (by simp)))
theorem AJ6 (t : Str) : FSpec Tryz.prog 282 [AV.str t] (AV.bool false) := by
 refine E7 Tryz.func282 rfl Tryz.ntmps282 rfl ?_
 refine A3 (A2 ?_)
 refine A1 rfl rfl rfl (C0 rfl F3) ?_
 refine A4 (A3 (A2 ?_))
 refine A5 rfl rfl rfl rfl rfl ?_
 refine A5 rfl rfl rfl rfl rfl ?_
 refine A1 rfl rfl rfl (AU5 rfl (A0 rfl) (A0 rfl)) ?_
 refine B5 rfl rfl rfl rfl rfl ?_
 refine A4 ?_
 refine C7 ?_
 exact I2 rfl (C3 rfl (by exact congrArg AV.bool (by simp)))
theorem AQ3 (x y : Int) : FSpec Tryz.prog 192 [AV.int x, AV.int y] (AV.int (cmpInt x y)) := by
 refine E7 Tryz.func192 rfl Tryz.ntmps192 rfl ?_
 refine A3 (A2 ?_)
 refine A1 rfl rfl rfl (C0 rfl C2) ?_
 refine A4 (A3 (A2 ?_))
 refine A5 rfl rfl rfl rfl rfl ?_
 refine A1 rfl rfl rfl (E5 rfl Tryz.call251 rfl (AJ5 _) (A7 (A0 rfl) C9)) ?_
 refine B5 rfl rfl rfl rfl rfl ?_
 refine A4 (A3 (A2 ?_))
 refine A5 rfl rfl rfl rfl rfl ?_
 refine A1 rfl rfl rfl (E5 rfl Tryz.call251 rfl (AJ5 _) (A7 (A0 rfl) C9)) ?_
 refine B5 rfl rfl rfl rfl rfl ?_
 refine A4 (A3 (A3 (A2 ?_)))
 refine A5 rfl rfl rfl rfl rfl ?_
 refine A4 ?_
 refine C8 (A0 rfl) ?_ ?_
 ·intro h11
  cases h11
 ·intro h11
  refine D2 (A3 (A3 (A2 ?_)))
  refine A5 rfl rfl rfl rfl rfl ?_
  refine A4 ?_
  refine C8 (A0 rfl) ?_ ?_
  ·intro h13
   cases h13
  ·intro h13
   refine D2 (A3 (A3 (A2 ?_)))
   refine A5 rfl rfl rfl rfl rfl ?_
   refine A5 rfl rfl rfl rfl rfl ?_
   refine A1 rfl rfl rfl (L4 rfl (A0 rfl) (A0 rfl)) ?_
   refine A4 ?_
   refine C8 (A0 rfl) ?_ ?_
   ·intro h16
    have k16 := of_decide_eq_true h16; try simp only [A6] at k16
    refine A3 (A2 ?_)
    refine A1 rfl rfl rfl (C0 rfl C2) ?_
    refine A4 ?_
    refine C7 ?_
    exact I2 rfl (C3 rfl (by exact congrArg AV.int (by unfold cmpInt; (repeat' split) <;> omega)))
   ·intro h16
    have k16 := of_decide_eq_false h16; try simp only [A6] at k16
    refine D2 (A3 (A3 (A2 ?_)))
    refine A5 rfl rfl rfl rfl rfl ?_
    refine A5 rfl rfl rfl rfl rfl ?_
    refine A1 rfl rfl rfl (P1 rfl (A0 rfl) (A0 rfl)) ?_
    refine A4 ?_
    refine C8 (A0 rfl) ?_ ?_
    ·intro h19
     have k19 := of_decide_eq_true h19; try simp only [A6] at k19
     refine A3 (A2 ?_)
     refine A1 rfl rfl rfl (C0 rfl C2) ?_
     refine A4 ?_
     refine C7 ?_
     exact I2 rfl (C3 rfl (by exact congrArg AV.int (by unfold cmpInt; (repeat' split) <;> omega)))
    ·intro h19
     have k19 := of_decide_eq_false h19; try simp only [A6] at k19
     refine D2 (A3 (A2 ?_))
     refine A1 rfl rfl rfl (C0 rfl C2) ?_
     refine A4 ?_
     refine C7 ?_
     exact I2 rfl (C3 rfl (by exact congrArg AV.int (by unfold cmpInt; (repeat' split) <;> omega)))
theorem AQ4 (x y : Str) : FSpec Tryz.prog 250 [AV.str x, AV.str y] (AV.int (cmpStr x y)) := by
 refine E7 Tryz.func250 rfl Tryz.ntmps250 rfl ?_
 refine A3 (A2 ?_)
 refine A1 rfl rfl rfl (C0 rfl C2) ?_
 refine A4 (A3 (A2 ?_))
 refine A5 rfl rfl rfl rfl rfl ?_
 refine A1 rfl rfl rfl (E5 rfl Tryz.call282 rfl (AJ6 _) (A7 (A0 rfl) C9)) ?_
 refine B5 rfl rfl rfl rfl rfl ?_
 refine A4 (A3 (A2 ?_))
 refine A5 rfl rfl rfl rfl rfl ?_
 refine A1 rfl rfl rfl (E5 rfl Tryz.call282 rfl (AJ6 _) (A7 (A0 rfl) C9)) ?_
 refine B5 rfl rfl rfl rfl rfl ?_
 refine A4 (A3 (A3 (A2 ?_)))
 refine A5 rfl rfl rfl rfl rfl ?_
 refine A4 ?_
 refine C8 (A0 rfl) ?_ ?_
 ·intro h11
  cases h11
 ·intro h11
  refine D2 (A3 (A3 (A2 ?_)))
  refine A5 rfl rfl rfl rfl rfl ?_
  refine A4 ?_
  refine C8 (A0 rfl) ?_ ?_
  ·intro h13
   cases h13
  ·intro h13
   refine D2 (A3 (A3 (A2 ?_)))
   refine A5 rfl rfl rfl rfl rfl ?_
   refine A5 rfl rfl rfl rfl rfl ?_
   refine A1 rfl rfl rfl (w_slss rfl (A0 rfl) (A0 rfl)) ?_
   refine A4 ?_
   refine C8 (A0 rfl) ?_ ?_
   ·intro h16
    refine A3 (A2 ?_)
    refine A1 rfl rfl rfl (C0 rfl C2) ?_
    refine A4 ?_
    refine C7 ?_
    exact I2 rfl (C3 rfl (by exact congrArg AV.int (by have := Q4 y x; unfold cmpStr; simp_all)))
   ·intro h16
    refine D2 (A3 (A3 (A2 ?_)))
    refine A5 rfl rfl rfl rfl rfl ?_
    refine A5 rfl rfl rfl rfl rfl ?_
    refine A1 rfl rfl rfl (Ag7 rfl (A0 rfl) (A0 rfl)) ?_
    refine A4 ?_
    refine C8 (A0 rfl) ?_ ?_
    ·intro h19
     refine A3 (A2 ?_)
     refine A1 rfl rfl rfl (C0 rfl C2) ?_
     refine A4 ?_
     refine C7 ?_
     exact I2 rfl (C3 rfl (by exact congrArg AV.int (by have := Q4 y x; unfold cmpStr; simp_all)))
    ·intro h19
     refine D2 (A3 (A2 ?_))
     refine A1 rfl rfl rfl (C0 rfl C2) ?_
     refine A4 ?_
     refine C7 ?_
     exact I2 rfl (C3 rfl (by exact congrArg AV.int (by have := Q4 y x; unfold cmpStr; simp_all)))
end Go.Proofs.YtnlhbdkcgaeimaaGreat

set_option linter.unusedVariables false
set_option linter.unusedSimpArgs false
set_option maxRecDepth 100000
namespace Go.Proofs.YtnlhbdkcgaeimaaGreat
open Go Go.AV Go.M
attribute [local irreducible] OpW OpA OpS AWP FSpec ESpec RetOk RvDen Le Ev GuardIs
end Go.Proofs.YtnlhbdkcgaeimaaGreat

set_option linter.unusedVariables false
set_option linter.unusedSimpArgs false
set_option maxRecDepth 100000
namespace Go.Proofs.YtnlhbdkcgaeimaaGreat
open Go Go.AV Go.M
attribute [local irreducible] OpW OpA OpS AWP FSpec ESpec RetOk RvDen Le Ev GuardIs
theorem At1 {l : List TWrite} (h : sizeL TWrite.size l ≤ 4194304) : ∀ k ∈ wKeys l, k.length ≤ 4611686018427387904 := fun k hk => by
  obtain ⟨w, hw, rfl⟩ := List.mem_map.1 hk
  have := p7 (f := TWrite.size) hw
  have h2 : w.size = w.Key.length + w.Val.length := rfl
  omega
theorem s6 (l : List Str) (hs : ∀ k ∈ l, k.length ≤ 4611686018427387904) : FSpec Tryz.prog 155 [strs l] (AV.bool (areRising l)) := by
 refine E7 Tryz.func155 rfl Tryz.ntmps155 rfl ?_
 refine U9 (t := 0) rfl fun hl => ?_
 try simp only [A6] at hl
 refine A3 (A2 ?_)
 refine A1 rfl rfl rfl (C0 rfl F3) ?_
 refine A4 (A3 (A3 (A2 ?_)))
 refine A5 rfl rfl rfl rfl rfl ?_
 refine A1 rfl rfl rfl (I5 rfl E3 (A0 rfl)) ?_
 refine A1 rfl rfl rfl (C6 rfl C2) ?_
 refine A4 (E1 ?_)
 refine K8 [(0, _), (5, _), (6, _)] _ (fun (i : Nat) => i ≤ l.length ∧ areRising l = ((l.drop i).all goodKey && adj Op.bytesLess (l.drop (i - 1)))) (fun (i : Nat) => []) (fun (i : Nat) => [(7, AV.int i)]) (fun (i : Nat) => l.length - i) (0) ?_ (L0 ⟨rfl, rfl, rfl, rfl, trivial⟩) ?_
 ·exact ⟨Nat.zero_le _, rfl⟩
 intro i hinv
 refine A3 (A2 ?_)
 refine A1 rfl rfl rfl (L4 rfl (A0 rfl) (A0 rfl)) ?_
 refine A4 (A3 ?_)
 refine C8 (A0 rfl) ?_ ?_
 ·intro h8
  have k8 := of_decide_eq_true h8; try simp only [A6] at k8
  have hlt : i < l.length := by omega
  obtain ⟨x, hx⟩ := get_some hlt
  obtain ⟨y, hy⟩ := get_some (show i - 1 < l.length by omega)
  have hsx := hs x (G2 hx)
  refine D2 (A3 (E1 (A3 (A2 ?_))))
  refine A5 rfl rfl rfl rfl rfl ?_
  refine A1 rfl rfl rfl (K0 rfl E3 E8 (A0 rfl) (A0 rfl) hx (by first | omega | (simp only [A6, A8, B2, B6, A9, szR] at *; omega))) ?_
  refine A1 rfl rfl rfl (O8 rfl (A0 rfl) H2 rfl) ?_
  refine B5 rfl rfl rfl rfl rfl ?_
  refine B5 rfl rfl rfl rfl rfl ?_
  refine A4 (A3 (A2 ?_))
  refine A5 rfl rfl rfl rfl rfl ?_
  refine A1 rfl rfl rfl (E5 rfl Tryz.call117 rfl (AC0 _ (by omega)) (A7 (A0 rfl) C9)) ?_
  refine A1 rfl rfl rfl (J7 rfl (A0 rfl)) ?_
  refine A5 rfl rfl rfl rfl rfl ?_
  refine B1 rfl rfl (D4 rfl rfl rfl) (fun hc => C6 rfl (A0 rfl)) ?_
  refine B1 rfl rfl (D4 rfl rfl rfl) (fun hc => P1 rfl (B0 rfl hc) C2) ?_
  refine B1 rfl rfl (D4 rfl rfl rfl) (fun hc => C6 rfl (B0 rfl hc)) ?_
  refine B1 rfl rfl (E2 rfl rfl rfl) (fun hc => C6 rfl (A0 rfl)) ?_
  refine B1 rfl rfl (E2 rfl rfl rfl) (fun hc => C6 rfl (A0 rfl)) ?_
  refine B1 rfl rfl (E2 rfl rfl rfl) (fun hc => C6 rfl (A0 rfl)) ?_
  refine B1 rfl rfl (E2 rfl rfl rfl) (fun hc => P8 rfl (B0 rfl hc) C2 (by first | omega | ((try simp only [A6, A8, B2, B6, A9, szR] at *); omega) | (have hc2 := hc; simp only [Bool.and_eq_true, Bool.or_eq_true, Bool.or_eq_false_iff, Bool.and_eq_false_iff, Bool.not_eq_true', Bool.not_eq_false', decide_eq_true_eq, decide_eq_false_iff_not, beq_iff_eq, bne_iff_ne, A6, A8] at hc2; omega))) ?_
  refine B1 rfl rfl (E2 rfl rfl rfl) (fun hc => K0 rfl E3 E8 (B0 rfl hc) (B0 rfl hc) hy (by first | omega | ((try simp only [A6, A8, B2, B6, A9, szR] at *); omega) | (have hc2 := hc; simp only [Bool.and_eq_true, Bool.or_eq_true, Bool.or_eq_false_iff, Bool.and_eq_false_iff, Bool.not_eq_true', Bool.not_eq_false', decide_eq_true_eq, decide_eq_false_iff_not, beq_iff_eq, bne_iff_ne, A6, A8] at hc2; omega))) ?_
  refine B1 rfl rfl (E2 rfl rfl rfl) (fun hc => O8 rfl (B0 rfl hc) H2 rfl) ?_
  refine B1 rfl rfl (E2 rfl rfl rfl) (fun hc => w_sleq rfl (B0 rfl hc) (B0 rfl hc)) ?_
  refine B1 rfl rfl (D4 rfl rfl rfl) (fun hc => I3 rfl (B0 rfl hc) (P4 rfl hc)) ?_
  refine A1 rfl rfl rfl (P5 rfl (A0 rfl) (G0 rfl)) ?_
  refine A4 ?_
  refine C8 (A0 rfl) ?_ ?_
  ·intro h27
   have hfin : areRising l = false := by rw [hinv.2]; cases hg : goodKey x with | false => (rw [o4 hx hg]; simp) | true => (have hb : 0 < i ∧ Op.bytesLess y x = false := (by have := Q4 y x; simp_all; try grind); rw [s3 hx hy hb.1 hb.2]; simp)
   refine A3 (A2 ?_)
   refine A1 rfl rfl rfl (C0 rfl F3) ?_
   refine A4 ?_
   refine C7 ?_
   exact I2 rfl (C3 rfl (by first | exact congrArg AV.bool hfin.symm | exact congrArg AV.bool (by rw [hinv.2, d6 hge, d5 hge]; rfl)))
  ·intro h27
   have hg : goodKey x = true ∧ (0 < i → Op.bytesLess y x = true) := by have := Q4 y x; simp_all
   refine D2 (A2 ?_)
   refine A1 rfl rfl rfl (H0 rfl (A0 rfl) C2 (by first | omega | (simp only [A6, A8, B2, B6, A9, szR] at *; omega))) ?_
   refine A5 rfl rfl rfl rfl rfl ?_
   refine A4 ?_
   refine N0 i (i + 1) ?_ ?_ (L0 ⟨rfl, rfl, rfl, rfl, trivial⟩)
   ·exact ⟨by omega, by rw [hinv.2, s4 hx hg.1, s0 hx hy hg.2]⟩
   ·omega
 ·intro h8
  have k8 := of_decide_eq_false h8; try simp only [A6] at k8
  have hge : l.length ≤ i := by omega
  refine I1 ?_
  refine A3 (A2 ?_)
  refine A1 rfl rfl rfl (C0 rfl F3) ?_
  refine A4 ?_
  refine C7 ?_
  exact I2 rfl (C3 rfl (by first | exact congrArg AV.bool hfin.symm | exact congrArg AV.bool (by rw [hinv.2, d6 hge, d5 hge]; rfl)))
theorem AZ1 (l : List TWrite) (hs : sizeL TWrite.size l ≤ 4194304) : FSpec Tryz.prog 240 [AV.list 3 (l.map TWrite.cs)] (strs (wKeys l)) := by
 have hl : l.length ≤ 4194304 := Nat.le_trans O1 hs
 refine E7 Tryz.func240 rfl Tryz.ntmps240 rfl ?_
 refine A3 (A2 ?_)
 refine A1 rfl rfl rfl (C0 rfl (AN7 (sz := 1))) ?_
 refine A4 (A3 (A2 ?_))
 refine R8 rfl rfl rfl rfl E3 E8 ?_
 intro v6
 refine B5 rfl rfl rfl rfl rfl ?_
 refine A4 (A3 (A3 (A2 ?_)))
 refine A5 rfl rfl rfl rfl rfl ?_
 refine A1 rfl rfl rfl (I5 rfl F7 (A0 rfl)) ?_
 refine A1 rfl rfl rfl (C6 rfl C2) ?_
 refine A4 (E1 ?_)
 refine T3 [(2, _), (7, _), (8, _)] _ (fun (i : Nat) (v : Value) => i ≤ l.length) (fun (i : Nat) (v : Value) => [.arr v 9 1 ((l.take i).map fun w => [AV.str w.Key])]) (fun (i : Nat) (v : Value) => [(3, AV.is v), (9, AV.int i)]) (fun (i : Nat) (v : Value) => l.length - i) (0) (v6) ?_ (S9 (by rfl) ⟨rfl, rfl, rfl, rfl, rfl, trivial⟩) ?_
 ·exact Nat.zero_le _
 intro i v hinv
 refine A3 (A2 ?_)
 refine A1 rfl rfl rfl (L4 rfl (A0 rfl) (A0 rfl)) ?_
 refine A4 (A3 ?_)
 refine C8 (A0 rfl) ?_ ?_
 ·intro h10
  have k10 := of_decide_eq_true h10; try simp only [A6] at k10
  have hlt : i < l.length := by omega
  obtain ⟨x, hx⟩ := get_some hlt
  refine D2 (A3 (E1 (A3 (A2 ?_))))
  refine A1 rfl rfl rfl (K0 rfl F7 H4 (A0 rfl) (A0 rfl) hx (by first | omega | (simp only [A6, A8, B2, B6, A9, szR] at *; omega))) ?_
  refine A1 rfl rfl rfl (L8 rfl (A0 rfl) S5 H4) ?_
  refine G5 rfl rfl rfl rfl Tryz.zeroValue77 rfl ?_
  intro b5
  refine D9 0 rfl rfl rfl (A0 rfl) (A0 rfl) (E9 _) rfl H4 rfl ?_
  refine A4 (A2 ?_)
  refine A5 rfl rfl rfl rfl rfl ?_
  refine A1 rfl rfl rfl (B4 0 rfl G8 rfl E8 (A0 rfl) rfl) ?_
  refine A1 rfl rfl rfl (B3 0 rfl (A0 rfl) rfl H2 rfl) ?_
  refine A1 rfl rfl rfl (M8 rfl E3 E8 Tryz.zeroValue9 rfl rfl rfl rfl (D7 (A0 rfl) (O0 _) H6) rfl rfl) ?_
  refine M6 (by' := 16) 1 rfl rfl rfl rfl E3 Tryz.type9 rfl rfl rfl rfl rfl rfl (A0 rfl) (A0 rfl) rfl (by first | omega | (simp only [A6, A8, B2, B6, A9, szR] at *; omega)) ?_
  intro v17_1
  refine B5 rfl rfl rfl rfl rfl ?_
  refine A4 (A2 ?_)
  refine A1 rfl rfl rfl (H0 rfl (A0 rfl) C2 (by first | omega | (simp only [A6, A8, B2, B6, A9, szR] at *; omega))) ?_
  refine A5 rfl rfl rfl rfl rfl ?_
  refine A4 ?_
  refine R6 i v (i + 1) (v17_1) ?_ ?_ (N4 1 (by exact congrArg (fun z => [Own.arr v17_1 9 1 z]) (c4 (f := fun w : TWrite => [AV.str w.Key]) hx)) ⟨rfl, rfl, rfl, rfl, rfl, trivial⟩)
  ·omega
  ·omega
 ·intro h10
  have k10 := of_decide_eq_false h10; try simp only [A6] at k10
  have hge : l.length ≤ i := by omega
  rw [List.take_of_length_le hge]
  refine I1 ?_
  refine A3 (A2 ?_)
  refine A5 rfl rfl rfl rfl rfl ?_
  refine B5 rfl rfl rfl rfl rfl ?_
  refine A4 ?_
  refine C7 ?_
  refine ret_seal 0 2 rfl rfl ?_
  exact I2 rfl (C3 rfl (by exact congrArg (AV.list 1) (by unfold wKeys; rw [List.map_map]; rfl)))
theorem AS8 (w : TWrite) (h : w.size ≤ 4194304) : FSpec Tryz.prog 241 [AV.agg w.cs] (AV.bool (!isStored w.Val w.Gone)) := by
 unfold TWrite.size at h
 refine E7 Tryz.func241 rfl Tryz.ntmps241 rfl ?_
 refine A3 (A2 ?_)
 refine L9 rfl rfl rfl rfl (A0 rfl) ?_
 intro b1
 refine A1 rfl rfl rfl (C0 rfl F3) ?_
 refine A4 (A3 (A2 ?_))
 refine A1 rfl rfl rfl (B4 1 rfl G8 rfl E8 (A0 rfl) rfl) ?_
 refine A1 rfl rfl rfl (B3 0 rfl (A0 rfl) rfl H2 rfl) ?_
 refine A1 rfl rfl rfl (B4 2 rfl G8 rfl I8 (A0 rfl) rfl) ?_
 refine A1 rfl rfl rfl (B3 0 rfl (A0 rfl) rfl L2 rfl) ?_
 refine A1 rfl rfl rfl (E5 rfl Tryz.call242 rfl (AJ4 _ _ (by omega)) (A7 (A0 rfl) (A7 (A0 rfl) C9))) ?_
 refine A1 rfl rfl rfl (J7 rfl (A0 rfl)) ?_
 refine B5 rfl rfl rfl rfl rfl ?_
 refine A4 ?_
 refine C7 ?_
 exact I2 rfl (C3 rfl (by first | rfl | (refine congrArg AV.bool ?_; simp_all; done)))
theorem AV9 (l : List TWrite) (hs : sizeL TWrite.size l ≤ 4194304) : FSpec Tryz.prog 177 [AV.list 3 (l.map TWrite.cs)] (AV.bool (goodWrites l)) := by
 have hm : ∀ x ∈ l, x.size ≤ 4194304 := fun x hx => Nat.le_trans (p7 hx) hs
 refine E7 Tryz.func177 rfl Tryz.ntmps177 rfl ?_
 refine A3 (A2 ?_)
 refine A1 rfl rfl rfl (C0 rfl F3) ?_
 refine A4 (A3 (A2 ?_))
 refine A5 rfl rfl rfl rfl rfl ?_
 refine A1 rfl rfl rfl (I5 rfl F7 (A0 rfl)) ?_
 refine A1 rfl rfl rfl (T6 rfl (A0 rfl) C2) ?_
 refine A5 rfl rfl rfl rfl rfl ?_
 refine B1 rfl rfl (B9 rfl rfl rfl) (fun hc => C6 rfl (A0 rfl)) ?_
 refine B1 rfl rfl (B9 rfl rfl rfl) (fun hc => E5 rfl Tryz.call240 rfl (AZ1 _ (by assumption)) (A7 (B0 rfl hc) C9)) ?_
 refine B1 rfl rfl (B9 rfl rfl rfl) (fun hc => E5 rfl Tryz.call155 rfl (s6 _ (by first | assumption | exact At1 (by assumption))) (A7 (B0 rfl hc) C9)) ?_
 refine A1 rfl rfl rfl (I3 rfl (A0 rfl) (G0 rfl)) ?_
 refine A5 rfl rfl rfl rfl rfl ?_
 refine B1 rfl rfl (B9 rfl rfl rfl) (fun hc => C6 rfl (A0 rfl)) ?_
 refine B1 rfl rfl (B9 rfl rfl rfl) (fun hc => E5 rfl Tryz.call186 rfl (f6 _ _ _ (by first | (intros; trivial) | assumption | (intros; first | trivial | (simp_all; done)))) (A7 (B0 rfl hc) (A7 (ev_fun1 Tryz.call241 (fun w h => AS8 w h)) C9))) ?_
 refine B1 rfl rfl (B9 rfl rfl rfl) (fun hc => J7 rfl (B0 rfl hc)) ?_
 refine A1 rfl rfl rfl (I3 rfl (A0 rfl) (G0 rfl)) ?_
 refine B5 rfl rfl rfl rfl rfl ?_
 refine A4 ?_
 refine C7 ?_
 exact I2 rfl (C3 rfl (by exact congrArg AV.bool (by unfold goodWrites; simp only [A6])))
theorem Af2 (l : List TWrite) (hs : sizeL TWrite.size l ≤ 1048576) : FSpec Tryz.prog 166 [AV.list 3 (l.map TWrite.cs)] (AV.bool (l3Writes l)) := by
 refine E7 Tryz.func166 rfl Tryz.ntmps166 rfl ?_
 refine U9 (t := 0) rfl fun hl => ?_
 try simp only [A6] at hl
 refine A3 (A2 ?_)
 refine A1 rfl rfl rfl (C0 rfl F3) ?_
 refine A4 (A3 (A3 (A2 ?_)))
 refine A5 rfl rfl rfl rfl rfl ?_
 refine A1 rfl rfl rfl (I5 rfl F7 (A0 rfl)) ?_
 refine A1 rfl rfl rfl (C6 rfl C2) ?_
 refine A4 (E1 ?_)
 refine K8 [(0, _), (5, _), (6, _)] _ (fun (i : Nat) => i ≤ l.length ∧ (l.all wGood && adj wLess l) = ((l.drop i).all wGood && adj wLess (l.drop (i - 1)))) (fun (i : Nat) => []) (fun (i : Nat) => [(7, AV.int i)]) (fun (i : Nat) => l.length - i) (0) ?_ (L0 ⟨rfl, rfl, rfl, rfl, trivial⟩) ?_
 ·exact ⟨Nat.zero_le _, rfl⟩
 intro i hinv
 refine A3 (A2 ?_)
 refine A1 rfl rfl rfl (L4 rfl (A0 rfl) (A0 rfl)) ?_
 refine A4 (A3 ?_)
 refine C8 (A0 rfl) ?_ ?_
 ·intro h8
  have k8 := of_decide_eq_true h8; try simp only [A6] at k8
  have hlt : i < l.length := by omega
  obtain ⟨x, hx⟩ := get_some hlt
  obtain ⟨y, hy⟩ := get_some (show i - 1 < l.length by omega)
  have hsx : x.size ≤ 1048576 := Nat.le_trans (W6 hx) hs
  unfold TWrite.size at hsx
  refine D2 (A3 (E1 (A3 (A2 ?_))))
  refine A5 rfl rfl rfl rfl rfl ?_
  refine A1 rfl rfl rfl (K0 rfl F7 H4 (A0 rfl) (A0 rfl) hx (by first | omega | (simp only [A6, A8, B2, B6, A9, szR] at *; omega))) ?_
  refine A1 rfl rfl rfl (L8 rfl (A0 rfl) S5 H4) ?_
  refine G5 rfl rfl rfl rfl Tryz.zeroValue77 rfl ?_
  intro b4
  refine B5 rfl rfl rfl rfl rfl ?_
  refine D9 0 rfl rfl rfl (A0 rfl) (A0 rfl) (E9 _) rfl H4 rfl ?_
  refine A4 (A3 ?_)
  refine K9 (by kernel_rfl) (by kernel_rfl) rfl ?_
  refine B7 rfl rfl (B4 0 rfl G8 rfl E8 (A0 rfl) rfl) ?_
  refine B7 rfl rfl (B3 0 rfl (A0 rfl) rfl H2 rfl) ?_
  refine B7 rfl rfl (B4 1 rfl G8 rfl E8 (A0 rfl) rfl) ?_
  refine B7 rfl rfl (B3 0 rfl (A0 rfl) rfl H2 rfl) ?_
  refine B7 rfl rfl (B4 2 rfl G8 rfl I8 (A0 rfl) rfl) ?_
  refine B7 rfl rfl (B3 0 rfl (A0 rfl) rfl L2 rfl) ?_
  refine B7 rfl rfl (E5 rfl Tryz.call235 rfl (AM5 _ _ _ (by omega) (by omega)) (A7 (A0 rfl) (A7 (A0 rfl) (A7 (A0 rfl) C9)))) ?_
  refine B7 rfl rfl (J7 rfl (A0 rfl)) ?_
  refine B7 rfl rfl (C6 rfl (A0 rfl)) ?_
  refine E0 rfl (D4 rfl rfl rfl) (fun hc => C6 rfl (A0 rfl)) ?_
  refine E0 rfl (D4 rfl rfl rfl) (fun hc => P1 rfl (B0 rfl hc) C2) ?_
  refine E0 rfl (D4 rfl rfl rfl) (fun hc => C6 rfl (B0 rfl hc)) ?_
  refine E0 rfl (E2 rfl rfl rfl) (fun hc => C6 rfl (A0 rfl)) ?_
  refine E0 rfl (E2 rfl rfl rfl) (fun hc => C6 rfl (A0 rfl)) ?_
  refine E0 rfl (E2 rfl rfl rfl) (fun hc => P8 rfl (B0 rfl hc) C2 (by first | omega | ((try simp only [A6, A8, B2, B6, A9, szR] at *); omega) | (have hc2 := hc; simp only [Bool.and_eq_true, Bool.or_eq_true, Bool.or_eq_false_iff, Bool.and_eq_false_iff, Bool.not_eq_true', Bool.not_eq_false', decide_eq_true_eq, decide_eq_false_iff_not, beq_iff_eq, bne_iff_ne, A6, A8] at hc2; omega))) ?_
  refine E0 rfl (E2 rfl rfl rfl) (fun hc => K0 rfl F7 H4 (B0 rfl hc) (B0 rfl hc) hy (by first | omega | ((try simp only [A6, A8, B2, B6, A9, szR] at *); omega) | (have hc2 := hc; simp only [Bool.and_eq_true, Bool.or_eq_true, Bool.or_eq_false_iff, Bool.and_eq_false_iff, Bool.not_eq_true', Bool.not_eq_false', decide_eq_true_eq, decide_eq_false_iff_not, beq_iff_eq, bne_iff_ne, A6, A8] at hc2; omega))) ?_
  refine E0 rfl (E2 rfl rfl rfl) (fun hc => W4 rfl G8 rfl E8 (B0 rfl hc) rfl) ?_
  refine E0 rfl (E2 rfl rfl rfl) (fun hc => O8 rfl (B0 rfl hc) H2 rfl) ?_
  refine E0 rfl (E2 rfl rfl rfl) (fun hc => B4 0 rfl G8 rfl E8 (A0 rfl) rfl) ?_
  refine E0 rfl (E2 rfl rfl rfl) (fun hc => B3 0 rfl (B0 rfl hc) rfl H2 rfl) ?_
  refine E0 rfl (E2 rfl rfl rfl) (fun hc => Ag8 rfl (B0 rfl hc) (B0 rfl hc)) ?_
  refine E0 rfl (D4 rfl rfl rfl) (fun hc => I3 rfl (B0 rfl hc) (P4 rfl hc)) ?_
  refine B7 rfl rfl (P5 rfl (A0 rfl) (G0 rfl)) ?_
  refine P7 ?_
  refine C8 (A0 rfl) ?_ ?_
  ·intro h34
   have hfin : l3Writes l = false := by unfold l3Writes; rw [hinv.2]; cases hg : wGood x with | false => (rw [o4 hx hg]; simp) | true => (have hb : 0 < i ∧ wLess y x = false := (by unfold wGood at hg; unfold wLess; simp_all; try grind); rw [s3 hx hy hb.1 hb.2]; simp)
   refine A3 (A2 ?_)
   refine A1 rfl rfl rfl (C0 rfl F3) ?_
   refine A4 ?_
   refine C7 ?_
   exact I2 rfl (C3 rfl (by first | exact congrArg AV.bool hfin.symm | exact congrArg AV.bool (by unfold l3Writes; rw [hinv.2, d6 hge, d5 hge, A6]; simp)))
  ·intro h34
   have hg : wGood x = true ∧ (0 < i → wLess y x = true) := by unfold wGood wLess; simp_all
   refine D2 (A2 ?_)
   refine A1 rfl rfl rfl (H0 rfl (A0 rfl) C2 (by first | omega | (simp only [A6, A8, B2, B6, A9, szR] at *; omega))) ?_
   refine A5 rfl rfl rfl rfl rfl ?_
   refine A4 ?_
   refine N0 i (i + 1) ?_ ?_ (U4 1 ⟨rfl, rfl, rfl, rfl, trivial⟩)
   ·exact ⟨by omega, by rw [hinv.2, s4 hx hg.1, s0 hx hy hg.2]⟩
   ·omega
 ·intro h8
  have k8 := of_decide_eq_false h8; try simp only [A6] at k8
  have hge : l.length ≤ i := by omega
  refine I1 ?_
  refine A3 (A2 ?_)
  refine A5 rfl rfl rfl rfl rfl ?_
  refine A1 rfl rfl rfl (I5 rfl F7 (A0 rfl)) ?_
  refine A1 rfl rfl rfl (T6 rfl (A0 rfl) C2) ?_
  refine B5 rfl rfl rfl rfl rfl ?_
  refine A4 ?_
  refine C7 ?_
  exact I2 rfl (C3 rfl (by first | exact congrArg AV.bool hfin.symm | exact congrArg AV.bool (by unfold l3Writes; rw [hinv.2, d6 hge, d5 hge, A6]; simp)))
end Go.Proofs.YtnlhbdkcgaeimaaGreat

set_option linter.unusedVariables false
set_option linter.unusedSimpArgs false
set_option maxRecDepth 100000
namespace Go.Proofs.YtnlhbdkcgaeimaaGreat
open Go Go.AV Go.M
attribute [local irreducible] OpW OpA OpS AWP FSpec ESpec RetOk RvDen Le Ev GuardIs
theorem AW0 (w : TWrite) (k : Str) : FSpec Tryz.prog 268 [AV.agg w.cs, AV.str k] (AV.int (wCmp k w)) := by
 refine E7 Tryz.func268 rfl Tryz.ntmps268 rfl ?_
 refine A3 (A2 ?_)
 refine L9 rfl rfl rfl rfl (A0 rfl) ?_
 intro b2
 refine A1 rfl rfl rfl (C0 rfl C2) ?_
 refine A4 (A3 (A2 ?_))
 refine A1 rfl rfl rfl (B4 0 rfl G8 rfl E8 (A0 rfl) rfl) ?_
 refine A1 rfl rfl rfl (B3 0 rfl (A0 rfl) rfl H2 rfl) ?_
 refine A5 rfl rfl rfl rfl rfl ?_
 refine A1 rfl rfl rfl (E5 rfl Tryz.call250 rfl (AQ4 _ _) (A7 (A0 rfl) (A7 (A0 rfl) C9))) ?_
 refine B5 rfl rfl rfl rfl rfl ?_
 refine A4 ?_
 refine C7 ?_
 exact I2 rfl (C3 rfl (by first | rfl | (refine congrArg AV.bool ?_; simp_all; done)))
theorem AF9 (l : List TWrite) (k : Str) (hs : l.length ≤ 4611686018427387903) : FSpec Tryz.prog 216 [AV.list 3 (l.map TWrite.cs), AV.str k] (AV.tup [AV.int (wPos l k), AV.bool (wHas l k)]) := by
 refine E7 Tryz.func216 rfl Tryz.ntmps216 rfl ?_
 refine A3 (A2 ?_)
 refine A1 rfl rfl rfl (C0 rfl C2) ?_
 refine A1 rfl rfl rfl (C0 rfl F3) ?_
 refine A4 (A3 (A2 ?_))
 refine A5 rfl rfl rfl rfl rfl ?_
 refine A5 rfl rfl rfl rfl rfl ?_
 refine A1 rfl rfl rfl (E5 rfl Tryz.call267 rfl (AE6 _ _ _ (by first | (intros; trivial) | assumption | (intros; first | trivial | (simp_all; done))) _ (by omega)) (A7 (A0 rfl) (A7 (A0 rfl) (A7 (AO0 Tryz.call268 (fun w k (_ : True) => AW0 w k)) C9)))) ?_
 refine A1 rfl rfl rfl (F0 rfl (A0 rfl) rfl) ?_
 refine A1 rfl rfl rfl (F0 rfl (A0 rfl) rfl) ?_
 refine B5 rfl rfl rfl rfl rfl ?_
 refine B5 rfl rfl rfl rfl rfl ?_
 refine A4 ?_
 refine C7 ?_
 exact U3 rfl (by decide) (E4 (C3 rfl (by first | rfl | (refine congrArg AV.bool ?_; simp_all; done))) (E4 (C3 rfl (by first | rfl | (refine congrArg AV.bool ?_; simp_all; done))) J0))
end Go.Proofs.YtnlhbdkcgaeimaaGreat

set_option linter.unusedVariables false
set_option linter.unusedSimpArgs false
set_option maxRecDepth 100000
namespace Go.Proofs.YtnlhbdkcgaeimaaGreat
open Go Go.AV Go.M
attribute [local irreducible] OpW OpA OpS AWP FSpec ESpec RetOk RvDen Le Ev GuardIs
theorem f7 {c : TCell} {n : Nat} (h : c.size ≤ n) : c.Key.length ≤ n ∧ c.Vers.length ≤ n ∧ sizeL TVer.size c.Vers ≤ n := by
  unfold TCell.size at h
  have : c.Vers.length ≤ n := Nat.le_trans O1 (show sizeL TVer.size c.Vers ≤ n by omega)
  omega
theorem u9 (t : Int) : FSpec Tryz.prog 90 [AV.int t] (AV.bool (isTrue t)) := by
 refine E7 Tryz.func90 rfl Tryz.ntmps90 rfl ?_
 refine A3 (A2 ?_)
 refine A1 rfl rfl rfl (C0 rfl F3) ?_
 refine A4 (A3 (A2 ?_))
 refine A5 rfl rfl rfl rfl rfl ?_
 refine A1 rfl rfl rfl (E5 rfl Tryz.call94 rfl (f4 _ _ _) (A7 (A0 rfl) (A7 C2 (A7 C2 C9)))) ?_
 refine B5 rfl rfl rfl rfl rfl ?_
 refine A4 ?_
 refine C7 ?_
 exact I2 rfl (C3 rfl (by first | rfl | (refine congrArg AV.bool ?_; simp_all; done)))
theorem l0 (t : Int) : FSpec Tryz.prog 147 [AV.int t] (AV.bool (within t 1 100000)) := by
 refine E7 Tryz.func147 rfl Tryz.ntmps147 rfl ?_
 refine A3 (A2 ?_)
 refine A1 rfl rfl rfl (C0 rfl F3) ?_
 refine A4 (A3 (A2 ?_))
 refine A5 rfl rfl rfl rfl rfl ?_
 refine A1 rfl rfl rfl (E5 rfl Tryz.call137 rfl (Z6 _ _ _) (A7 (A0 rfl) (A7 C2 (A7 C2 C9)))) ?_
 refine B5 rfl rfl rfl rfl rfl ?_
 refine A4 ?_
 refine C7 ?_
 exact I2 rfl (C3 rfl (by first | rfl | (refine congrArg AV.bool ?_; simp_all; done)))
theorem AQ5 (t : Int) : FSpec Tryz.prog 120 [AV.int t] (AV.bool (isTrue t)) := by
 refine E7 Tryz.func120 rfl Tryz.ntmps120 rfl ?_
 refine A3 (A2 ?_)
 refine A1 rfl rfl rfl (C0 rfl F3) ?_
 refine A4 (A3 (A2 ?_))
 refine A5 rfl rfl rfl rfl rfl ?_
 refine A1 rfl rfl rfl (E5 rfl Tryz.call137 rfl (Z6 _ _ _) (A7 (A0 rfl) (A7 C2 (A7 C2 C9)))) ?_
 refine B5 rfl rfl rfl rfl rfl ?_
 refine A4 ?_
 refine C7 ?_
 exact I2 rfl (C3 rfl (by first | rfl | (refine congrArg AV.bool ?_; simp_all; done)))
theorem An4 (c : TCell) (hs : c.size ≤ 4194304) : FSpec Tryz.prog 181 [AV.agg c.cs] (AV.bool (isCell c)) := by
 have hcl := f7 hs
 refine E7 Tryz.func181 rfl Tryz.ntmps181 rfl ?_
 refine A3 (A2 ?_)
 refine L9 rfl rfl rfl rfl (A0 rfl) ?_
 intro b1
 refine A1 rfl rfl rfl (C0 rfl F3) ?_
 refine A4 (A3 (A3 (A2 ?_)))
 refine A1 rfl rfl rfl (B4 1 rfl G9 rfl M1 (A0 rfl) rfl) ?_
 refine A1 rfl rfl rfl (B3 0 rfl (A0 rfl) rfl Q6 rfl) ?_
 refine A1 rfl rfl rfl (I5 rfl I6 (A0 rfl)) ?_
 refine A1 rfl rfl rfl (C6 rfl C2) ?_
 refine A4 (E1 ?_)
 refine K8 [(1, _), (6, _), (7, _)] _ (fun (i : Nat) => i ≤ c.Vers.length ∧ (c.Vers.all verGood && adj verLess c.Vers) = ((c.Vers.drop i).all verGood && adj verLess (c.Vers.drop (i - 1)))) (fun (i : Nat) => []) (fun (i : Nat) => [(8, AV.int i)]) (fun (i : Nat) => c.Vers.length - i) (0) ?_ (L0 ⟨rfl, rfl, rfl, rfl, trivial⟩) ?_
 ·exact ⟨Nat.zero_le _, rfl⟩
 intro i hinv
 refine A3 (A2 ?_)
 refine A1 rfl rfl rfl (L4 rfl (A0 rfl) (A0 rfl)) ?_
 refine A4 (A3 ?_)
 refine C8 (A0 rfl) ?_ ?_
 ·intro h9
  have k9 := of_decide_eq_true h9; try simp only [A6] at k9
  have hlt : i < c.Vers.length := by omega
  obtain ⟨x, hx⟩ := get_some hlt
  obtain ⟨y, hy⟩ := get_some (show i - 1 < c.Vers.length by omega)
  have hsx : x.size ≤ 4194304 := Nat.le_trans (W6 hx) hcl.2.2
  unfold TVer.size at hsx
  refine D2 (A3 (E1 (A3 (A2 ?_))))
  refine A5 rfl rfl rfl rfl rfl ?_
  refine A1 rfl rfl rfl (K0 rfl I6 O6 (A0 rfl) (A0 rfl) hx (by first | omega | (simp only [A6, A8, B2, B6, A9, szR] at *; omega))) ?_
  refine A1 rfl rfl rfl (L8 rfl (A0 rfl) Tryz.isAgg197 O6) ?_
  refine G5 rfl rfl rfl rfl Tryz.zeroValue197 rfl ?_
  intro b4
  refine B5 rfl rfl rfl rfl rfl ?_
  refine D9 0 rfl rfl rfl (A0 rfl) (A0 rfl) (E9 _) rfl O6 rfl ?_
  refine A4 (A3 ?_)
  refine K9 (by kernel_rfl) (by kernel_rfl) rfl ?_
  refine B7 rfl rfl (B4 0 rfl O9 rfl C1 (A0 rfl) rfl) ?_
  refine B7 rfl rfl (B3 0 rfl (A0 rfl) rfl D1 rfl) ?_
  refine B7 rfl rfl (E5 rfl Tryz.call134 rfl (k6 _) (A7 (A0 rfl) C9)) ?_
  refine B7 rfl rfl (J7 rfl (A0 rfl)) ?_
  refine B7 rfl rfl (C6 rfl (A0 rfl)) ?_
  refine E0 rfl (D4 rfl rfl rfl) (fun hc => B4 1 rfl O9 rfl E8 (A0 rfl) rfl) ?_
  refine E0 rfl (D4 rfl rfl rfl) (fun hc => B3 0 rfl (B0 rfl hc) rfl H2 rfl) ?_
  refine E0 rfl (D4 rfl rfl rfl) (fun hc => B4 2 rfl O9 rfl I8 (A0 rfl) rfl) ?_
  refine E0 rfl (D4 rfl rfl rfl) (fun hc => B3 0 rfl (B0 rfl hc) rfl L2 rfl) ?_
  refine E0 rfl (D4 rfl rfl rfl) (fun hc => E5 rfl Tryz.call242 rfl (AJ4 _ _ (by omega)) (A7 (B0 rfl hc) (A7 (B0 rfl hc) C9))) ?_
  refine E0 rfl (D4 rfl rfl rfl) (fun hc => J7 rfl (B0 rfl hc)) ?_
  refine B7 rfl rfl (P5 rfl (A0 rfl) (G0 rfl)) ?_
  refine B7 rfl rfl (C6 rfl (A0 rfl)) ?_
  refine E0 rfl (D4 rfl rfl rfl) (fun hc => C6 rfl (A0 rfl)) ?_
  refine E0 rfl (D4 rfl rfl rfl) (fun hc => P1 rfl (B0 rfl hc) C2) ?_
  refine E0 rfl (D4 rfl rfl rfl) (fun hc => C6 rfl (B0 rfl hc)) ?_
  refine E0 rfl (E2 rfl rfl rfl) (fun hc => B4 0 rfl O9 rfl C1 (A0 rfl) rfl) ?_
  refine E0 rfl (E2 rfl rfl rfl) (fun hc => B3 0 rfl (B0 rfl hc) rfl D1 rfl) ?_
  refine E0 rfl (E2 rfl rfl rfl) (fun hc => B4 1 rfl G9 rfl M1 (A0 rfl) rfl) ?_
  refine E0 rfl (E2 rfl rfl rfl) (fun hc => B3 1 rfl (B0 rfl hc) rfl Q6 rfl) ?_
  refine E0 rfl (E2 rfl rfl rfl) (fun hc => C6 rfl (A0 rfl)) ?_
  refine E0 rfl (E2 rfl rfl rfl) (fun hc => P8 rfl (B0 rfl hc) C2 (by first | omega | ((try simp only [A6, A8, B2, B6, A9, szR] at *); omega) | (have hc2 := hc; simp only [Bool.and_eq_true, Bool.or_eq_true, Bool.or_eq_false_iff, Bool.and_eq_false_iff, Bool.not_eq_true', Bool.not_eq_false', decide_eq_true_eq, decide_eq_false_iff_not, beq_iff_eq, bne_iff_ne, A6, A8] at hc2; omega))) ?_
  refine E0 rfl (E2 rfl rfl rfl) (fun hc => K0 rfl I6 O6 (B0 rfl hc) (B0 rfl hc) hy (by first | omega | ((try simp only [A6, A8, B2, B6, A9, szR] at *); omega) | (have hc2 := hc; simp only [Bool.and_eq_true, Bool.or_eq_true, Bool.or_eq_false_iff, Bool.and_eq_false_iff, Bool.not_eq_true', Bool.not_eq_false', decide_eq_true_eq, decide_eq_false_iff_not, beq_iff_eq, bne_iff_ne, A6, A8] at hc2; omega))) ?_
  refine E0 rfl (E2 rfl rfl rfl) (fun hc => W4 rfl O9 rfl C1 (B0 rfl hc) rfl) ?_
  refine E0 rfl (E2 rfl rfl rfl) (fun hc => O8 rfl (B0 rfl hc) D1 rfl) ?_
  refine E0 rfl (E2 rfl rfl rfl) (fun hc => T6 rfl (B0 rfl hc) (B0 rfl hc)) ?_
  refine E0 rfl (D4 rfl rfl rfl) (fun hc => I3 rfl (B0 rfl hc) (P4 rfl hc)) ?_
  refine B7 rfl rfl (P5 rfl (A0 rfl) (G0 rfl)) ?_
  refine P7 ?_
  refine C8 (A0 rfl) ?_ ?_
  ·intro h40
   have hfin : isCell c = false := by unfold isCell; rw [hinv.2]; cases hg : verGood x with | false => (rw [o4 hx hg]; simp) | true => (have hb : 0 < i ∧ verLess y x = false := (by unfold verGood at hg; unfold verLess; simp_all; try grind); rw [s3 hx hy hb.1 hb.2]; simp)
   refine A3 (A2 ?_)
   refine A1 rfl rfl rfl (C0 rfl F3) ?_
   refine A4 ?_
   refine C7 ?_
   exact I2 rfl (C3 rfl (by first | exact congrArg AV.bool hfin.symm | exact congrArg AV.bool (by unfold isCell; rw [hinv.2, d6 hge, d5 hge]; simp)))
  ·intro h40
   have hg : verGood x = true ∧ (0 < i → verLess y x = true) := by unfold verGood verLess; simp_all
   refine D2 (A2 ?_)
   refine A1 rfl rfl rfl (H0 rfl (A0 rfl) C2 (by first | omega | (simp only [A6, A8, B2, B6, A9, szR] at *; omega))) ?_
   refine A5 rfl rfl rfl rfl rfl ?_
   refine A4 ?_
   refine N0 i (i + 1) ?_ ?_ (U4 1 ⟨rfl, rfl, rfl, rfl, trivial⟩)
   ·exact ⟨by omega, by rw [hinv.2, s4 hx hg.1, s0 hx hy hg.2]⟩
   ·omega
 ·intro h9
  have k9 := of_decide_eq_false h9; try simp only [A6] at k9
  have hge : c.Vers.length ≤ i := by omega
  refine I1 ?_
  refine A3 (A2 ?_)
  refine A1 rfl rfl rfl (B4 1 rfl G9 rfl M1 (A0 rfl) rfl) ?_
  refine A1 rfl rfl rfl (B3 0 rfl (A0 rfl) rfl Q6 rfl) ?_
  refine A1 rfl rfl rfl (I5 rfl I6 (A0 rfl)) ?_
  refine A1 rfl rfl rfl (E5 rfl Tryz.call94 rfl (f4 _ _ _) (A7 (A0 rfl) (A7 C2 (A7 C2 C9)))) ?_
  refine B5 rfl rfl rfl rfl rfl ?_
  refine A4 ?_
  refine C7 ?_
  exact I2 rfl (C3 rfl (by first | exact congrArg AV.bool hfin.symm | exact congrArg AV.bool (by unfold isCell; rw [hinv.2, d6 hge, d5 hge]; simp)))
theorem An5 (c : TCell) (hs : c.size ≤ 4194304) : FSpec Tryz.prog 260 [AV.agg c.cs] (AV.bool (l3Cell c)) := by
 have hcl := f7 hs
 refine E7 Tryz.func260 rfl Tryz.ntmps260 rfl ?_
 refine A3 (A2 ?_)
 refine L9 rfl rfl rfl rfl (A0 rfl) ?_
 intro b1
 refine A1 rfl rfl rfl (C0 rfl F3) ?_
 refine A4 (A3 (A3 (A2 ?_)))
 refine A1 rfl rfl rfl (B4 1 rfl G9 rfl M1 (A0 rfl) rfl) ?_
 refine A1 rfl rfl rfl (B3 0 rfl (A0 rfl) rfl Q6 rfl) ?_
 refine A1 rfl rfl rfl (I5 rfl I6 (A0 rfl)) ?_
 refine A1 rfl rfl rfl (C6 rfl C2) ?_
 refine A4 (E1 ?_)
 refine K8 [(1, _), (6, _), (7, _)] _ (fun (i : Nat) => i ≤ c.Vers.length ∧ (c.Vers.all (verGoodS c.Key) && adj verLess c.Vers) = ((c.Vers.drop i).all (verGoodS c.Key) && adj verLess (c.Vers.drop (i - 1)))) (fun (i : Nat) => []) (fun (i : Nat) => [(8, AV.int i)]) (fun (i : Nat) => c.Vers.length - i) (0) ?_ (L0 ⟨rfl, rfl, rfl, rfl, trivial⟩) ?_
 ·exact ⟨Nat.zero_le _, rfl⟩
 intro i hinv
 refine A3 (A2 ?_)
 refine A1 rfl rfl rfl (L4 rfl (A0 rfl) (A0 rfl)) ?_
 refine A4 (A3 ?_)
 refine C8 (A0 rfl) ?_ ?_
 ·intro h9
  have k9 := of_decide_eq_true h9; try simp only [A6] at k9
  have hlt : i < c.Vers.length := by omega
  obtain ⟨x, hx⟩ := get_some hlt
  obtain ⟨y, hy⟩ := get_some (show i - 1 < c.Vers.length by omega)
  have hsx : x.size ≤ 4194304 := Nat.le_trans (W6 hx) hcl.2.2
  unfold TVer.size at hsx
  refine D2 (A3 (E1 (A3 (A2 ?_))))
  refine A5 rfl rfl rfl rfl rfl ?_
  refine A1 rfl rfl rfl (K0 rfl I6 O6 (A0 rfl) (A0 rfl) hx (by first | omega | (simp only [A6, A8, B2, B6, A9, szR] at *; omega))) ?_
  refine A1 rfl rfl rfl (L8 rfl (A0 rfl) Tryz.isAgg197 O6) ?_
  refine G5 rfl rfl rfl rfl Tryz.zeroValue197 rfl ?_
  intro b4
  refine B5 rfl rfl rfl rfl rfl ?_
  refine D9 0 rfl rfl rfl (A0 rfl) (A0 rfl) (E9 _) rfl O6 rfl ?_
  refine A4 (A3 ?_)
  refine K9 (by kernel_rfl) (by kernel_rfl) rfl ?_
  refine B7 rfl rfl (B4 0 rfl O9 rfl C1 (A0 rfl) rfl) ?_
  refine B7 rfl rfl (B3 0 rfl (A0 rfl) rfl D1 rfl) ?_
  refine B7 rfl rfl (E5 rfl Tryz.call147 rfl (l0 _) (A7 (A0 rfl) C9)) ?_
  refine B7 rfl rfl (J7 rfl (A0 rfl)) ?_
  refine B7 rfl rfl (C6 rfl (A0 rfl)) ?_
  refine E0 rfl (D4 rfl rfl rfl) (fun hc => B4 0 rfl G9 rfl E8 (A0 rfl) rfl) ?_
  refine E0 rfl (D4 rfl rfl rfl) (fun hc => B3 1 rfl (B0 rfl hc) rfl H2 rfl) ?_
  refine E0 rfl (D4 rfl rfl rfl) (fun hc => B4 1 rfl O9 rfl E8 (A0 rfl) rfl) ?_
  refine E0 rfl (D4 rfl rfl rfl) (fun hc => B3 0 rfl (B0 rfl hc) rfl H2 rfl) ?_
  refine E0 rfl (D4 rfl rfl rfl) (fun hc => B4 2 rfl O9 rfl I8 (A0 rfl) rfl) ?_
  refine E0 rfl (D4 rfl rfl rfl) (fun hc => B3 0 rfl (B0 rfl hc) rfl L2 rfl) ?_
  refine E0 rfl (D4 rfl rfl rfl) (fun hc => E5 rfl Tryz.call235 rfl (AM5 _ _ _ (by omega) (by omega)) (A7 (B0 rfl hc) (A7 (B0 rfl hc) (A7 (B0 rfl hc) C9)))) ?_
  refine E0 rfl (D4 rfl rfl rfl) (fun hc => J7 rfl (B0 rfl hc)) ?_
  refine B7 rfl rfl (P5 rfl (A0 rfl) (G0 rfl)) ?_
  refine B7 rfl rfl (C6 rfl (A0 rfl)) ?_
  refine E0 rfl (D4 rfl rfl rfl) (fun hc => C6 rfl (A0 rfl)) ?_
  refine E0 rfl (D4 rfl rfl rfl) (fun hc => P1 rfl (B0 rfl hc) C2) ?_
  refine E0 rfl (D4 rfl rfl rfl) (fun hc => C6 rfl (B0 rfl hc)) ?_
  refine E0 rfl (E2 rfl rfl rfl) (fun hc => B4 1 rfl G9 rfl M1 (A0 rfl) rfl) ?_
  refine E0 rfl (E2 rfl rfl rfl) (fun hc => B3 1 rfl (B0 rfl hc) rfl Q6 rfl) ?_
  refine E0 rfl (E2 rfl rfl rfl) (fun hc => C6 rfl (A0 rfl)) ?_
  refine E0 rfl (E2 rfl rfl rfl) (fun hc => P8 rfl (B0 rfl hc) C2 (by first | omega | ((try simp only [A6, A8, B2, B6, A9, szR] at *); omega) | (have hc2 := hc; simp only [Bool.and_eq_true, Bool.or_eq_true, Bool.or_eq_false_iff, Bool.and_eq_false_iff, Bool.not_eq_true', Bool.not_eq_false', decide_eq_true_eq, decide_eq_false_iff_not, beq_iff_eq, bne_iff_ne, A6, A8] at hc2; omega))) ?_
  refine E0 rfl (E2 rfl rfl rfl) (fun hc => K0 rfl I6 O6 (B0 rfl hc) (B0 rfl hc) hy (by first | omega | ((try simp only [A6, A8, B2, B6, A9, szR] at *); omega) | (have hc2 := hc; simp only [Bool.and_eq_true, Bool.or_eq_true, Bool.or_eq_false_iff, Bool.and_eq_false_iff, Bool.not_eq_true', Bool.not_eq_false', decide_eq_true_eq, decide_eq_false_iff_not, beq_iff_eq, bne_iff_ne, A6, A8] at hc2; omega))) ?_
  refine E0 rfl (E2 rfl rfl rfl) (fun hc => W4 rfl O9 rfl C1 (B0 rfl hc) rfl) ?_
  refine E0 rfl (E2 rfl rfl rfl) (fun hc => O8 rfl (B0 rfl hc) D1 rfl) ?_
  refine E0 rfl (E2 rfl rfl rfl) (fun hc => B4 0 rfl O9 rfl C1 (A0 rfl) rfl) ?_
  refine E0 rfl (E2 rfl rfl rfl) (fun hc => B3 0 rfl (B0 rfl hc) rfl D1 rfl) ?_
  refine E0 rfl (E2 rfl rfl rfl) (fun hc => d7 rfl (B0 rfl hc) (B0 rfl hc)) ?_
  refine E0 rfl (D4 rfl rfl rfl) (fun hc => I3 rfl (B0 rfl hc) (P4 rfl hc)) ?_
  refine B7 rfl rfl (P5 rfl (A0 rfl) (G0 rfl)) ?_
  refine P7 ?_
  refine C8 (A0 rfl) ?_ ?_
  ·intro h42
   have hfin : l3Cell c = false := by unfold l3Cell; rw [hinv.2]; cases hg : verGoodS c.Key x with | false => (rw [o4 hx hg]; simp) | true => (have hb : 0 < i ∧ verLess y x = false := (by unfold verGoodS at hg; unfold verLess; simp_all; try grind); rw [s3 hx hy hb.1 hb.2]; simp)
   refine A3 (A2 ?_)
   refine A1 rfl rfl rfl (C0 rfl F3) ?_
   refine A4 ?_
   refine C7 ?_
   exact I2 rfl (C3 rfl (by first | exact congrArg AV.bool hfin.symm | exact congrArg AV.bool (by unfold l3Cell; rw [hinv.2, d6 hge, d5 hge]; simp)))
  ·intro h42
   have hg : verGoodS c.Key x = true ∧ (0 < i → verLess y x = true) := by unfold verGoodS verLess; simp_all
   refine D2 (A2 ?_)
   refine A1 rfl rfl rfl (H0 rfl (A0 rfl) C2 (by first | omega | (simp only [A6, A8, B2, B6, A9, szR] at *; omega))) ?_
   refine A5 rfl rfl rfl rfl rfl ?_
   refine A4 ?_
   refine N0 i (i + 1) ?_ ?_ (U4 1 ⟨rfl, rfl, rfl, rfl, trivial⟩)
   ·exact ⟨by omega, by rw [hinv.2, s4 hx hg.1, s0 hx hy hg.2]⟩
   ·omega
 ·intro h9
  have k9 := of_decide_eq_false h9; try simp only [A6] at k9
  have hge : c.Vers.length ≤ i := by omega
  refine I1 ?_
  refine A3 (A2 ?_)
  refine A1 rfl rfl rfl (B4 0 rfl G9 rfl E8 (A0 rfl) rfl) ?_
  refine A1 rfl rfl rfl (B3 0 rfl (A0 rfl) rfl H2 rfl) ?_
  refine A1 rfl rfl rfl (E5 rfl Tryz.call119 rfl (AI4 _ (by omega)) (A7 (A0 rfl) C9)) ?_
  refine A5 rfl rfl rfl rfl rfl ?_
  refine B1 rfl rfl (B9 rfl rfl rfl) (fun hc => B4 1 rfl G9 rfl M1 (A0 rfl) rfl) ?_
  refine B1 rfl rfl (B9 rfl rfl rfl) (fun hc => B3 0 rfl (B0 rfl hc) rfl Q6 rfl) ?_
  refine B1 rfl rfl (B9 rfl rfl rfl) (fun hc => I5 rfl I6 (B0 rfl hc)) ?_
  refine B1 rfl rfl (B9 rfl rfl rfl) (fun hc => E5 rfl Tryz.call137 rfl (Z6 _ _ _) (A7 (B0 rfl hc) (A7 C2 (A7 C2 C9)))) ?_
  refine A1 rfl rfl rfl (I3 rfl (A0 rfl) (G0 rfl)) ?_
  refine B5 rfl rfl rfl rfl rfl ?_
  refine A4 ?_
  refine C7 ?_
  exact I2 rfl (C3 rfl (by first | exact congrArg AV.bool hfin.symm | exact congrArg AV.bool (by unfold l3Cell; rw [hinv.2, d6 hge, d5 hge]; simp)))
theorem s7 (l : List TCell) (hs : sizeL TCell.size l ≤ 4194304) : FSpec Tryz.prog 91 [AV.list 2 (l.map TCell.cs)] (AV.bool (goodCells l)) := by
 have hl : l.length ≤ 4194304 := Nat.le_trans O1 hs
 have hks : ∀ k ∈ cKeys l, k.length ≤ 4611686018427387904 := fun k hk => by
  obtain ⟨w, hw, rfl⟩ := List.mem_map.1 hk
  have := f7 (Nat.le_trans (p7 hw) hs)
  omega
 refine E7 Tryz.func91 rfl Tryz.ntmps91 rfl ?_
 refine A3 (A2 ?_)
 refine A1 rfl rfl rfl (C0 rfl F3) ?_
 refine A4 (A3 (A2 ?_))
 refine R8 rfl rfl rfl rfl E3 E8 ?_
 intro v6
 refine B5 rfl rfl rfl rfl rfl ?_
 refine A4 (A3 (A3 (A2 ?_)))
 refine A5 rfl rfl rfl rfl rfl ?_
 refine A1 rfl rfl rfl (I5 rfl D6 (A0 rfl)) ?_
 refine A1 rfl rfl rfl (C6 rfl C2) ?_
 refine A4 (E1 ?_)
 refine T3 [(0, _), (7, _), (8, _)] _ (fun (i : Nat) (v : Value) => i ≤ l.length ∧ l.all isCell = (l.drop i).all isCell) (fun (i : Nat) (v : Value) => [.arr v 9 1 ((l.take i).map fun w => [AV.str w.Key])]) (fun (i : Nat) (v : Value) => [(3, AV.is v), (9, AV.int i)]) (fun (i : Nat) (v : Value) => l.length - i) (0) (v6) ?_ (S9 (by rfl) ⟨rfl, rfl, rfl, rfl, rfl, trivial⟩) ?_
 ·exact ⟨Nat.zero_le _, rfl⟩
 intro i v hinv
 refine A3 (A2 ?_)
 refine A1 rfl rfl rfl (L4 rfl (A0 rfl) (A0 rfl)) ?_
 refine A4 (A3 ?_)
 refine C8 (A0 rfl) ?_ ?_
 ·intro h10
  have k10 := of_decide_eq_true h10; try simp only [A6] at k10
  have hlt : i < l.length := by omega
  obtain ⟨x, hx⟩ := get_some hlt
  have hsx : x.size ≤ 4194304 := Nat.le_trans (W6 hx) hs
  refine D2 (A3 (E1 (A3 (A2 ?_))))
  refine A1 rfl rfl rfl (K0 rfl D6 F2 (A0 rfl) (A0 rfl) hx (by first | omega | (simp only [A6, A8, B2, B6, A9, szR] at *; omega))) ?_
  refine A1 rfl rfl rfl (L8 rfl (A0 rfl) T2 F2) ?_
  refine G5 rfl rfl rfl rfl Tryz.zeroValue142 rfl ?_
  intro b5
  refine D9 0 rfl rfl rfl (A0 rfl) (A0 rfl) (E9 _) rfl F2 rfl ?_
  refine A4 (A3 (A3 (A2 ?_)))
  refine A1 rfl rfl rfl (F8 0 rfl (A0 rfl) rfl T2 F2 rfl) ?_
  refine A1 rfl rfl rfl (E5 rfl Tryz.call181 rfl (An4 _ (by first | assumption | omega)) (A7 (A0 rfl) C9)) ?_
  refine A1 rfl rfl rfl (J7 rfl (A0 rfl)) ?_
  refine A4 ?_
  refine C8 (A0 rfl) ?_ ?_
  ·intro h15
   refine A3 (A2 ?_)
   refine A1 rfl rfl rfl (C0 rfl F3) ?_
   refine A4 ?_
   refine C7 ?_
   exact I2 rfl (C3 rfl (by first | exact congrArg AV.bool (by unfold goodCells; rw [hinv.2, o4 hx (by simpa using h15)]; rfl) | exact congrArg AV.bool (by unfold goodCells; rw [hinv.2, d6 hge, A6]; simp)))
  ·intro h15
   refine D2 (A2 ?_)
   refine A5 rfl rfl rfl rfl rfl ?_
   refine A1 rfl rfl rfl (B4 0 rfl G9 rfl E8 (A0 rfl) rfl) ?_
   refine A1 rfl rfl rfl (B3 0 rfl (A0 rfl) rfl H2 rfl) ?_
   refine A1 rfl rfl rfl (M8 rfl E3 E8 Tryz.zeroValue9 rfl rfl rfl rfl (D7 (A0 rfl) (O0 _) H6) rfl rfl) ?_
   refine M6 (by' := 16) 1 rfl rfl rfl rfl E3 Tryz.type9 rfl rfl rfl rfl rfl rfl (A0 rfl) (A0 rfl) rfl (by first | omega | (simp only [A6, A8, B2, B6, A9, szR] at *; omega)) ?_
   intro v20_1
   refine B5 rfl rfl rfl rfl rfl ?_
   refine A4 (A2 ?_)
   refine A1 rfl rfl rfl (H0 rfl (A0 rfl) C2 (by first | omega | (simp only [A6, A8, B2, B6, A9, szR] at *; omega))) ?_
   refine A5 rfl rfl rfl rfl rfl ?_
   refine A4 ?_
   refine R6 i v (i + 1) (v20_1) ?_ ?_ (N4 1 (by exact congrArg (fun z => [Own.arr v20_1 9 1 z]) (c4 (f := fun w : TCell => [AV.str w.Key]) hx)) ⟨rfl, rfl, rfl, rfl, rfl, trivial⟩)
   ·exact ⟨by omega, by rw [hinv.2, s4 hx (by simpa using h15)]⟩
   ·omega
 ·intro h10
  have k10 := of_decide_eq_false h10; try simp only [A6] at k10
  have hge : l.length ≤ i := by omega
  rw [List.take_of_length_le hge, show (l.map fun w => [AV.str w.Key]) = (cKeys l).map (fun k => [AV.str k]) from by unfold cKeys; rw [List.map_map]; rfl]
  refine I1 ?_
  refine A3 (A2 ?_)
  refine A5 rfl rfl rfl rfl rfl ?_
  refine A1 rfl rfl rfl (I5 rfl D6 (A0 rfl)) ?_
  refine A1 rfl rfl rfl (T6 rfl (A0 rfl) C2) ?_
  refine A5 rfl rfl rfl rfl rfl ?_
  refine B1 rfl rfl (B9 rfl rfl rfl) (fun hc => C6 rfl (A0 rfl)) ?_
  refine B1 rfl rfl (B9 rfl rfl rfl) (fun hc => V3 rfl Tryz.call155 rfl (s6 (cKeys l) hks) (F6 _) (M5 (AX9 0 (B0 rfl hc) rfl) T1)) ?_
  refine A1 rfl rfl rfl (I3 rfl (A0 rfl) (G0 rfl)) ?_
  refine B5 rfl rfl rfl rfl rfl ?_
  refine A4 ?_
  refine C7 ?_
  exact I2 rfl (C3 rfl (by first | exact congrArg AV.bool (by unfold goodCells; rw [hinv.2, o4 hx (by simpa using h15)]; rfl) | exact congrArg AV.bool (by unfold goodCells; rw [hinv.2, d6 hge, A6]; simp)))
theorem AQ6 (l : List TCell) (hs : sizeL TCell.size l ≤ 4194304) : FSpec Tryz.prog 201 [AV.list 2 (l.map TCell.cs)] (AV.bool (l3Good l)) := by
 refine E7 Tryz.func201 rfl Tryz.ntmps201 rfl ?_
 refine U9 (t := 0) rfl fun hl => ?_
 try simp only [A6] at hl
 refine A3 (A2 ?_)
 refine A1 rfl rfl rfl (C0 rfl F3) ?_
 refine A4 (A3 (A3 (A2 ?_)))
 refine A5 rfl rfl rfl rfl rfl ?_
 refine A1 rfl rfl rfl (I5 rfl D6 (A0 rfl)) ?_
 refine A1 rfl rfl rfl (C6 rfl C2) ?_
 refine A4 (E1 ?_)
 refine K8 [(0, _), (5, _), (6, _)] _ (fun (i : Nat) => i ≤ l.length ∧ (l.all l3Cell && adj cLess l) = ((l.drop i).all l3Cell && adj cLess (l.drop (i - 1)))) (fun (i : Nat) => []) (fun (i : Nat) => [(7, AV.int i)]) (fun (i : Nat) => l.length - i) (0) ?_ (L0 ⟨rfl, rfl, rfl, rfl, trivial⟩) ?_
 ·exact ⟨Nat.zero_le _, rfl⟩
 intro i hinv
 refine A3 (A2 ?_)
 refine A1 rfl rfl rfl (L4 rfl (A0 rfl) (A0 rfl)) ?_
 refine A4 (A3 ?_)
 refine C8 (A0 rfl) ?_ ?_
 ·intro h8
  have k8 := of_decide_eq_true h8; try simp only [A6] at k8
  have hlt : i < l.length := by omega
  obtain ⟨x, hx⟩ := get_some hlt
  obtain ⟨y, hy⟩ := get_some (show i - 1 < l.length by omega)
  have hsx : x.size ≤ 4194304 := Nat.le_trans (W6 hx) hs
  refine D2 (A3 (E1 (A3 (A2 ?_))))
  refine A5 rfl rfl rfl rfl rfl ?_
  refine A1 rfl rfl rfl (K0 rfl D6 F2 (A0 rfl) (A0 rfl) hx (by first | omega | (simp only [A6, A8, B2, B6, A9, szR] at *; omega))) ?_
  refine A1 rfl rfl rfl (L8 rfl (A0 rfl) T2 F2) ?_
  refine G5 rfl rfl rfl rfl Tryz.zeroValue142 rfl ?_
  intro b4
  refine B5 rfl rfl rfl rfl rfl ?_
  refine D9 0 rfl rfl rfl (A0 rfl) (A0 rfl) (E9 _) rfl F2 rfl ?_
  refine A4 (A3 ?_)
  refine K9 (by kernel_rfl) (by kernel_rfl) rfl ?_
  refine B7 rfl rfl (F8 0 rfl (A0 rfl) rfl T2 F2 rfl) ?_
  refine B7 rfl rfl (E5 rfl Tryz.call260 rfl (An5 _ (by first | assumption | omega)) (A7 (A0 rfl) C9)) ?_
  refine B7 rfl rfl (J7 rfl (A0 rfl)) ?_
  refine B7 rfl rfl (C6 rfl (A0 rfl)) ?_
  refine E0 rfl (D4 rfl rfl rfl) (fun hc => C6 rfl (A0 rfl)) ?_
  refine E0 rfl (D4 rfl rfl rfl) (fun hc => P1 rfl (B0 rfl hc) C2) ?_
  refine E0 rfl (D4 rfl rfl rfl) (fun hc => C6 rfl (B0 rfl hc)) ?_
  refine E0 rfl (E2 rfl rfl rfl) (fun hc => C6 rfl (A0 rfl)) ?_
  refine E0 rfl (E2 rfl rfl rfl) (fun hc => C6 rfl (A0 rfl)) ?_
  refine E0 rfl (E2 rfl rfl rfl) (fun hc => P8 rfl (B0 rfl hc) C2 (by first | omega | ((try simp only [A6, A8, B2, B6, A9, szR] at *); omega) | (have hc2 := hc; simp only [Bool.and_eq_true, Bool.or_eq_true, Bool.or_eq_false_iff, Bool.and_eq_false_iff, Bool.not_eq_true', Bool.not_eq_false', decide_eq_true_eq, decide_eq_false_iff_not, beq_iff_eq, bne_iff_ne, A6, A8] at hc2; omega))) ?_
  refine E0 rfl (E2 rfl rfl rfl) (fun hc => K0 rfl D6 F2 (B0 rfl hc) (B0 rfl hc) hy (by first | omega | ((try simp only [A6, A8, B2, B6, A9, szR] at *); omega) | (have hc2 := hc; simp only [Bool.and_eq_true, Bool.or_eq_true, Bool.or_eq_false_iff, Bool.and_eq_false_iff, Bool.not_eq_true', Bool.not_eq_false', decide_eq_true_eq, decide_eq_false_iff_not, beq_iff_eq, bne_iff_ne, A6, A8] at hc2; omega))) ?_
  refine E0 rfl (E2 rfl rfl rfl) (fun hc => W4 rfl G9 rfl E8 (B0 rfl hc) rfl) ?_
  refine E0 rfl (E2 rfl rfl rfl) (fun hc => O8 rfl (B0 rfl hc) H2 rfl) ?_
  refine E0 rfl (E2 rfl rfl rfl) (fun hc => B4 0 rfl G9 rfl E8 (A0 rfl) rfl) ?_
  refine E0 rfl (E2 rfl rfl rfl) (fun hc => B3 0 rfl (B0 rfl hc) rfl H2 rfl) ?_
  refine E0 rfl (E2 rfl rfl rfl) (fun hc => Ag8 rfl (B0 rfl hc) (B0 rfl hc)) ?_
  refine E0 rfl (D4 rfl rfl rfl) (fun hc => I3 rfl (B0 rfl hc) (P4 rfl hc)) ?_
  refine B7 rfl rfl (P5 rfl (A0 rfl) (G0 rfl)) ?_
  refine P7 ?_
  refine C8 (A0 rfl) ?_ ?_
  ·intro h29
   have hfin : l3Good l = false := by unfold l3Good; rw [hinv.2]; cases hg : l3Cell x with | false => (rw [o4 hx hg]; simp) | true => (have hb : 0 < i ∧ cLess y x = false := (by unfold cLess; simp_all; try grind); rw [s3 hx hy hb.1 hb.2]; simp)
   refine A3 (A2 ?_)
   refine A1 rfl rfl rfl (C0 rfl F3) ?_
   refine A4 ?_
   refine C7 ?_
   exact I2 rfl (C3 rfl (by first | exact congrArg AV.bool hfin.symm | exact congrArg AV.bool (by unfold l3Good; rw [hinv.2, d6 hge, d5 hge, A6]; simp)))
  ·intro h29
   have hg : l3Cell x = true ∧ (0 < i → cLess y x = true) := by unfold cLess; simp_all
   refine D2 (A2 ?_)
   refine A1 rfl rfl rfl (H0 rfl (A0 rfl) C2 (by first | omega | (simp only [A6, A8, B2, B6, A9, szR] at *; omega))) ?_
   refine A5 rfl rfl rfl rfl rfl ?_
   refine A4 ?_
   refine N0 i (i + 1) ?_ ?_ (U4 1 ⟨rfl, rfl, rfl, rfl, trivial⟩)
   ·exact ⟨by omega, by rw [hinv.2, s4 hx hg.1, s0 hx hy hg.2]⟩
   ·omega
 ·intro h8
  have k8 := of_decide_eq_false h8; try simp only [A6] at k8
  have hge : l.length ≤ i := by omega
  refine I1 ?_
  refine A3 (A2 ?_)
  refine A5 rfl rfl rfl rfl rfl ?_
  refine A1 rfl rfl rfl (I5 rfl D6 (A0 rfl)) ?_
  refine A1 rfl rfl rfl (T6 rfl (A0 rfl) C2) ?_
  refine B5 rfl rfl rfl rfl rfl ?_
  refine A4 ?_
  refine C7 ?_
  exact I2 rfl (C3 rfl (by first | exact congrArg AV.bool hfin.symm | exact congrArg AV.bool (by unfold l3Good; rw [hinv.2, d6 hge, d5 hge, A6]; simp)))
theorem AZ2 (c : TCell) (k : Str) : FSpec Tryz.prog 249 [AV.agg c.cs, AV.str k] (AV.int (cCmp k c)) := by
 refine E7 Tryz.func249 rfl Tryz.ntmps249 rfl ?_
 refine A3 (A2 ?_)
 refine L9 rfl rfl rfl rfl (A0 rfl) ?_
 intro b2
 refine A1 rfl rfl rfl (C0 rfl C2) ?_
 refine A4 (A3 (A2 ?_))
 refine A1 rfl rfl rfl (B4 0 rfl G9 rfl E8 (A0 rfl) rfl) ?_
 refine A1 rfl rfl rfl (B3 0 rfl (A0 rfl) rfl H2 rfl) ?_
 refine A5 rfl rfl rfl rfl rfl ?_
 refine A1 rfl rfl rfl (E5 rfl Tryz.call250 rfl (AQ4 _ _) (A7 (A0 rfl) (A7 (A0 rfl) C9))) ?_
 refine B5 rfl rfl rfl rfl rfl ?_
 refine A4 ?_
 refine C7 ?_
 exact I2 rfl (C3 rfl (by first | rfl | (refine congrArg AV.bool ?_; simp_all; done)))
theorem o0 (l : List TCell) (k : Str) (hs : l.length ≤ 4611686018427387903) : FSpec Tryz.prog 189 [AV.list 2 (l.map TCell.cs), AV.str k] (AV.tup [AV.int (cPos l k), AV.bool (cHas l k)]) := by
 refine E7 Tryz.func189 rfl Tryz.ntmps189 rfl ?_
 refine A3 (A2 ?_)
 refine A1 rfl rfl rfl (C0 rfl C2) ?_
 refine A1 rfl rfl rfl (C0 rfl F3) ?_
 refine A4 (A3 (A2 ?_))
 refine A5 rfl rfl rfl rfl rfl ?_
 refine A5 rfl rfl rfl rfl rfl ?_
 refine A1 rfl rfl rfl (E5 rfl Tryz.call248 rfl (AF4 _ _ _ (by first | (intros; trivial) | assumption | (intros; first | trivial | (simp_all; done))) _ (by omega)) (A7 (A0 rfl) (A7 (A0 rfl) (A7 (AO0 Tryz.call249 (fun c k (_ : True) => AZ2 c k)) C9)))) ?_
 refine A1 rfl rfl rfl (F0 rfl (A0 rfl) rfl) ?_
 refine A1 rfl rfl rfl (F0 rfl (A0 rfl) rfl) ?_
 refine B5 rfl rfl rfl rfl rfl ?_
 refine B5 rfl rfl rfl rfl rfl ?_
 refine A4 ?_
 refine C7 ?_
 exact U3 rfl (by decide) (E4 (C3 rfl (by first | rfl | (refine congrArg AV.bool ?_; simp_all; done))) (E4 (C3 rfl (by first | rfl | (refine congrArg AV.bool ?_; simp_all; done))) J0))
theorem Ad3 {c : TCell} (h : 1 ≤ c.Vers.length) : ∃ v, c.Vers[c.Vers.length - 1]? = some v ∧ lastV c = v.Time := by
  obtain ⟨v, hv⟩ := get_some (show c.Vers.length - 1 < c.Vers.length by omega)
  refine ⟨v, hv, ?_⟩
  unfold lastV; rw [List.getLast?_eq_getElem?, hv]
theorem y8 (l : List TCell) (k : Str) (ho : CellsOk l) (hs : sizeL TCell.size l ≤ 4194304) : FSpec Tryz.prog 93 [AV.list 2 (l.map TCell.cs), AV.str k] (AV.int (lastTime l k)) := by
 have hl : l.length ≤ 4194304 := Nat.le_trans O1 hs
 refine E7 Tryz.func93 rfl Tryz.ntmps93 rfl ?_
 refine A3 (A2 ?_)
 refine A1 rfl rfl rfl (C0 rfl C2) ?_
 refine A4 (A3 (A2 ?_))
 refine A5 rfl rfl rfl rfl rfl ?_
 refine A5 rfl rfl rfl rfl rfl ?_
 refine A1 rfl rfl rfl (E5 rfl Tryz.call189 rfl (o0 _ _ (by first | assumption | omega)) (A7 (A0 rfl) (A7 (A0 rfl) C9))) ?_
 refine A5 rfl rfl rfl rfl rfl ?_
 refine A1 rfl rfl rfl (F0 rfl (A0 rfl) rfl) ?_
 refine A1 rfl rfl rfl (F0 rfl (A0 rfl) rfl) ?_
 refine B5 rfl rfl rfl rfl rfl ?_
 refine B5 rfl rfl rfl rfl rfl ?_
 refine A4 (A3 (A3 (A2 ?_)))
 refine A5 rfl rfl rfl rfl rfl ?_
 refine A1 rfl rfl rfl (J7 rfl (A0 rfl)) ?_
 refine A4 ?_
 refine C8 (A0 rfl) ?_ ?_
 ·intro h14
  have hn : cHas l k = false := by simpa using h14
  have he : lastTime l k = 0 := by unfold lastTime; rw [AB8 ho.1, hn]; rfl
  rw [he]
  refine A3 (A2 ?_)
  refine A1 rfl rfl rfl (C0 rfl C2) ?_
  refine A4 ?_
  refine C7 ?_
  exact I2 rfl (C3 rfl (by first | rfl | (refine congrArg AV.bool ?_; simp_all; done)))
 ·intro h14
  have hn : cHas l k = true := by simpa using h14
  obtain ⟨c, hc, hck⟩ := o5.1 hn
  obtain ⟨v, hv, hlv⟩ := Ad3 (ho.2 c (G2 hc))
  have hcl := f7 (Nat.le_trans (W6 hc) hs)
  have hc1 := ho.2 c (G2 hc)
  have he : lastTime l k = v.Time := by unfold lastTime; rw [AB8 ho.1, hn, if_pos rfl, hc]; exact hlv
  rw [he]
  refine D2 (A3 ?_)
  refine K9 (by kernel_rfl) (by kernel_rfl) rfl ?_
  refine B7 rfl rfl (C6 rfl (A0 rfl)) ?_
  refine B7 rfl rfl (C6 rfl (A0 rfl)) ?_
  refine B7 rfl rfl (K0 rfl D6 F2 (A0 rfl) (A0 rfl) hc (by first | omega | (simp only [A6, A8, B2, B6, A9, szR] at *; omega))) ?_
  refine B7 rfl rfl (W4 rfl G9 rfl M1 (A0 rfl) rfl) ?_
  refine B7 rfl rfl (O8 rfl (A0 rfl) Q6 rfl) ?_
  refine B7 rfl rfl (C6 rfl (A0 rfl)) ?_
  refine B7 rfl rfl (C6 rfl (A0 rfl)) ?_
  refine B7 rfl rfl (K0 rfl D6 F2 (A0 rfl) (A0 rfl) hc (by first | omega | (simp only [A6, A8, B2, B6, A9, szR] at *; omega))) ?_
  refine B7 rfl rfl (W4 rfl G9 rfl M1 (A0 rfl) rfl) ?_
  refine B7 rfl rfl (O8 rfl (A0 rfl) Q6 rfl) ?_
  refine B7 rfl rfl (I5 rfl I6 (A0 rfl)) ?_
  refine B7 rfl rfl (P8 rfl (A0 rfl) C2 (by first | omega | (simp only [A6, A8, B2, B6, A9, szR] at *; omega))) ?_
  refine B7 rfl rfl (K0 rfl I6 O6 (A0 rfl) (A0 rfl) hv (by first | omega | (simp only [A6, A8, B2, B6, A9, szR] at *; omega))) ?_
  refine B7 rfl rfl (W4 rfl O9 rfl C1 (A0 rfl) rfl) ?_
  refine B7 rfl rfl (O8 rfl (A0 rfl) D1 rfl) ?_
  refine B7 rfl rfl (C0 rfl (A0 rfl)) ?_
  refine P7 ?_
  refine C7 ?_
  exact I2 rfl (C3 rfl (by first | rfl | (refine congrArg AV.bool ?_; simp_all; done)))
theorem Ad4 (l : List TCell) (k : Str) : FSpec Tryz.prog 261 [AV.list 2 (l.map TCell.cs), AV.str k] (AV.int (atC l k)) := by
 refine E7 Tryz.func261 rfl Tryz.ntmps261 rfl ?_
 refine U9 (t := 0) rfl fun hl => ?_
 try simp only [A6] at hl
 refine A3 (A2 ?_)
 refine A1 rfl rfl rfl (C0 rfl C2) ?_
 refine A4 (A3 (A3 (A2 ?_)))
 refine A5 rfl rfl rfl rfl rfl ?_
 refine A1 rfl rfl rfl (I5 rfl D6 (A0 rfl)) ?_
 refine A1 rfl rfl rfl (C6 rfl C2) ?_
 refine A4 (E1 ?_)
 refine K8 [(1, _), (7, _), (8, _)] _ (fun (i : Nat) => i ≤ l.length ∧ ∀ j x, j < i → l[j]? = some x → x.Key ≠ k) (fun (i : Nat) => []) (fun (i : Nat) => [(9, AV.int i)]) (fun (i : Nat) => l.length - i) (0) ?_ (L0 ⟨rfl, rfl, rfl, rfl, trivial⟩) ?_
 ·exact ⟨Nat.zero_le _, fun j x h => by omega⟩
 intro i hinv
 refine A3 (A2 ?_)
 refine A1 rfl rfl rfl (L4 rfl (A0 rfl) (A0 rfl)) ?_
 refine A4 (A3 ?_)
 refine C8 (A0 rfl) ?_ ?_
 ·intro h10
  have k10 := of_decide_eq_true h10; try simp only [A6] at k10
  have hlt : i < l.length := by omega
  obtain ⟨x, hx⟩ := get_some hlt
  refine D2 (A3 (E1 (A3 (A2 ?_))))
  refine A5 rfl rfl rfl rfl rfl ?_
  refine A1 rfl rfl rfl (K0 rfl D6 F2 (A0 rfl) (A0 rfl) hx (by first | omega | (simp only [A6, A8, B2, B6, A9, szR] at *; omega))) ?_
  refine A1 rfl rfl rfl (L8 rfl (A0 rfl) T2 F2) ?_
  refine G5 rfl rfl rfl rfl Tryz.zeroValue142 rfl ?_
  intro b6
  refine B5 rfl rfl rfl rfl rfl ?_
  refine D9 0 rfl rfl rfl (A0 rfl) (A0 rfl) (E9 _) rfl F2 rfl ?_
  refine A4 (A3 (A2 ?_))
  refine A1 rfl rfl rfl (B4 0 rfl G9 rfl E8 (A0 rfl) rfl) ?_
  refine A1 rfl rfl rfl (B3 0 rfl (A0 rfl) rfl H2 rfl) ?_
  refine A5 rfl rfl rfl rfl rfl ?_
  refine A1 rfl rfl rfl (w4 rfl (A0 rfl) (A0 rfl)) ?_
  refine A4 ?_
  refine C8 (A0 rfl) ?_ ?_
  ·intro h17
   refine A3 (A2 ?_)
   refine A5 rfl rfl rfl rfl rfl ?_
   refine B5 rfl rfl rfl rfl rfl ?_
   refine A4 ?_
   refine C7 ?_
   exact I2 rfl (C3 rfl (by first | exact congrArg AV.int (Ai1 hx (by simpa using h17) hinv.2).symm | exact congrArg AV.int (Ai2 fun j x hx => hinv.2 j x (Nat.lt_of_lt_of_le (List.getElem?_eq_some_iff.1 hx).1 hge) hx).symm))
  ·intro h17
   refine D2 (A2 ?_)
   refine A1 rfl rfl rfl (H0 rfl (A0 rfl) C2 (by first | omega | (simp only [A6, A8, B2, B6, A9, szR] at *; omega))) ?_
   refine A5 rfl rfl rfl rfl rfl ?_
   refine A4 ?_
   refine N0 i (i + 1) ?_ ?_ (U4 1 ⟨rfl, rfl, rfl, rfl, trivial⟩)
   ·exact ⟨by omega, fun j y hj hy => if hji : j < i then hinv.2 j y hji hy else (by have e : j = i := (by omega); subst e; rw [hx] at hy; injection hy with hy; subst hy; simpa using h17)⟩
   ·omega
 ·intro h10
  have k10 := of_decide_eq_false h10; try simp only [A6] at k10
  have hge : l.length ≤ i := by omega
  refine I1 ?_
  refine A3 (A2 ?_)
  refine A1 rfl rfl rfl (C0 rfl C2) ?_
  refine A4 ?_
  refine C7 ?_
  exact I2 rfl (C3 rfl (by first | exact congrArg AV.int (Ai1 hx (by simpa using h17) hinv.2).symm | exact congrArg AV.int (Ai2 fun j x hx => hinv.2 j x (Nat.lt_of_lt_of_le (List.getElem?_eq_some_iff.1 hx).1 hge) hx).symm))
theorem AE7 (l : List TCell) (k : Str) (ho : CellsOk l) (hs : sizeL TCell.size l ≤ 4194304) : FSpec Tryz.prog 203 [AV.list 2 (l.map TCell.cs), AV.str k] (AV.int (lastTime l k)) := by
 have hl : l.length ≤ 4194304 := Nat.le_trans O1 hs
 refine E7 Tryz.func203 rfl Tryz.ntmps203 rfl ?_
 refine A3 (A2 ?_)
 refine A1 rfl rfl rfl (C0 rfl C2) ?_
 refine A4 (A3 (A2 ?_))
 refine A5 rfl rfl rfl rfl rfl ?_
 refine A5 rfl rfl rfl rfl rfl ?_
 refine A1 rfl rfl rfl (E5 rfl Tryz.call261 rfl (Ad4 _ _) (A7 (A0 rfl) (A7 (A0 rfl) C9))) ?_
 refine B5 rfl rfl rfl rfl rfl ?_
 refine A4 (A3 (A3 (A2 ?_)))
 refine A5 rfl rfl rfl rfl rfl ?_
 refine A1 rfl rfl rfl (L4 rfl (A0 rfl) C2) ?_
 refine A4 ?_
 refine C8 (A0 rfl) ?_ ?_
 ·intro h10
  have k10 := of_decide_eq_true h10; try simp only [A6] at k10
  have hn : findC l k = none := Aq3 k10
  have he : lastTime l k = 0 := by unfold lastTime; rw [hn]
  rw [he]
  refine A3 (A2 ?_)
  refine A1 rfl rfl rfl (C0 rfl C2) ?_
  refine A4 ?_
  refine C7 ?_
  exact I2 rfl (C3 rfl (by first | rfl | (refine congrArg AV.bool ?_; simp_all; done)))
 ·intro h10
  have k10 := of_decide_eq_false h10; try simp only [A6] at k10
  obtain ⟨p, c, hp, hc, hf⟩ := Aq4 k10
  rw [hp]
  obtain ⟨v, hv, hlv⟩ := Ad3 (ho.2 c (G2 hc))
  have hcl := f7 (Nat.le_trans (W6 hc) hs)
  have hc1 := ho.2 c (G2 hc)
  have he : lastTime l k = v.Time := by unfold lastTime; rw [hf]; exact hlv
  rw [he]
  refine D2 (A3 ?_)
  refine K9 (by kernel_rfl) (by kernel_rfl) rfl ?_
  refine B7 rfl rfl (C6 rfl (A0 rfl)) ?_
  refine B7 rfl rfl (C6 rfl (A0 rfl)) ?_
  refine B7 rfl rfl (K0 rfl D6 F2 (A0 rfl) (A0 rfl) hc (by first | omega | (simp only [A6, A8, B2, B6, A9, szR] at *; omega))) ?_
  refine B7 rfl rfl (W4 rfl G9 rfl M1 (A0 rfl) rfl) ?_
  refine B7 rfl rfl (O8 rfl (A0 rfl) Q6 rfl) ?_
  refine B7 rfl rfl (C6 rfl (A0 rfl)) ?_
  refine B7 rfl rfl (C6 rfl (A0 rfl)) ?_
  refine B7 rfl rfl (K0 rfl D6 F2 (A0 rfl) (A0 rfl) hc (by first | omega | (simp only [A6, A8, B2, B6, A9, szR] at *; omega))) ?_
  refine B7 rfl rfl (W4 rfl G9 rfl M1 (A0 rfl) rfl) ?_
  refine B7 rfl rfl (O8 rfl (A0 rfl) Q6 rfl) ?_
  refine B7 rfl rfl (I5 rfl I6 (A0 rfl)) ?_
  refine B7 rfl rfl (P8 rfl (A0 rfl) C2 (by first | omega | (simp only [A6, A8, B2, B6, A9, szR] at *; omega))) ?_
  refine B7 rfl rfl (K0 rfl I6 O6 (A0 rfl) (A0 rfl) hv (by first | omega | (simp only [A6, A8, B2, B6, A9, szR] at *; omega))) ?_
  refine B7 rfl rfl (W4 rfl O9 rfl C1 (A0 rfl) rfl) ?_
  refine B7 rfl rfl (O8 rfl (A0 rfl) D1 rfl) ?_
  refine B7 rfl rfl (C0 rfl (A0 rfl)) ?_
  refine P7 ?_
  refine C7 ?_
  exact I2 rfl (C3 rfl (by first | rfl | (refine congrArg AV.bool ?_; simp_all; done)))
end Go.Proofs.YtnlhbdkcgaeimaaGreat

set_option linter.unusedVariables false
set_option linter.unusedSimpArgs false
namespace Go.AV
section
variable {P : Program} {G : Nat → Prop} {n : Nat} {own : List Own} {o : Oper}
theorem Ad5 {rest : List Own} : ∀ b, (fun _ : Nat => False) b → b ∈ rest.filterMap Own.blk := fun _ h => h.elim
theorem R7 {rest : List Own} : ∀ b, blksOf [] b → b ∈ rest.filterMap Own.blk := fun _ ⟨_, h, _⟩ => by simp at h
theorem S3 {q q' : Own} {ow rest : List Own} (i : Nat) (h : rest[i]? = some q') (hb : Own.blk q = Own.blk q') (k : ∀ b, blksOf ow b → b ∈ rest.filterMap Own.blk) : ∀ b, blksOf (q :: ow) b → b ∈ rest.filterMap Own.blk := fun b ⟨x, hx, hxb⟩ => by
  rcases List.mem_cons.1 hx with rfl | hx
  · exact List.mem_filterMap.2 ⟨q', G2 h, hb ▸ hxb⟩
  · exact k b ⟨x, hx, hxb⟩
theorem AI5 {sel rest : List Own} {w0 : World} {R0 R : RHeap} {w : World} (h : Core G w0 R0 (sel ++ rest) R w) (hG : ∀ b, G b → b ∈ rest.filterMap Own.blk) : Core G w0 R0 rest (lend sel w R) w := by
  have hl := U0 h
  refine ⟨h.os, h.tape, h.output, h.size, h.block, AO1 hl, fun b hb => ?_, fun q hq => ?_, fun q hq => h.fresh q (List.mem_append_right _ hq), (AH0 h).sep⟩
  · unfold lend
    cases hob : ownB sel b with
    | true =>
      obtain ⟨x, hx, hxb⟩ := l6 hob
      rcases h.fresh x (List.mem_append_left _ hx) b hxb with h1 | h1
      · omega
      · obtain ⟨y, hy, hyb⟩ := List.mem_filterMap.1 (hG b h1)
        exact absurd hyb (w7 h.sep hx hy hxb)
    | false => exact h.rold b hb
  · have hk := h.owned q (List.mem_append_right _ hq)
    refine Own.ok_keep hk (e7 hl) fun b hb => ⟨rfl, ?_⟩
    unfold lend
    cases hob : ownB sel b with
    | true =>
      obtain ⟨x, hx, hxb⟩ := l6 hob
      exact absurd hb (w7 h.sep hx hq hxb)
    | false => exact (Own.ok_blk hk hb).1
theorem Y6 {env : List (Nat × AV)} {sel rest : List Own} {x y : AV} (is : List Nat) (t : Nat) (hp : pick own is = (sel, rest)) (ht : getv t env = some x) (hl : LendTo sel x y) (hG : ∀ b, G b → b ∈ rest.filterMap Own.blk) : Le G n ⟨own, env⟩ ⟨rest, (t, y) :: env⟩ := fun w0 R0 R a w ⟨h1, h2, h3⟩ => by
  have hc := g7 h1 hp
  refine ⟨lend sel w R, e7 (U0 hc), AI5 hc hG, fun k z hz => ?_, h3⟩
  simp only [getv] at hz
  by_cases hk : t = k
  · subst hk
    simp [Nat.beq_refl] at hz
    rw [← hz]
    exact hl G w0 R0 R w _ (U0 hc) (h2 t x ht)
  · rw [m4 hk, cond_false] at hz
    exact z.mono (e7 (U0 hc)) (h2 k z hz)
theorem AS9 {ops : Array Oper} {rest : List Oper} {env : List (Nat × AV)} {K : AState → Prop} {d : Nat} {c : Bool} (hd : o.dst = some d) (hn : Nat.blt d n = true) (hg : GuardIs ops o (getv · env) c)
    (ht : c = true → ASeq P G n ops ({ o with guard := none } :: rest) ⟨own, env⟩ K) (hf : c = false → ASeq P G n ops rest ⟨own, (d, AV.is undef) :: env⟩ K) : ASeq P G n ops (o :: rest) ⟨own, env⟩ K := fun w0 R0 R a w hs => by
  have hgc := hg R a fun t _ y hy => hs.2.1 t y hy
  cases c with
  | true =>
    refine ⟨fun _ => ?_, fun hw => by rw [hgc] at hw; exact Bool.noConfusion hw⟩
    exact (ht rfl w0 R0 R a w hs).1 rfl
  | false =>
    refine ⟨fun hw => by rw [hgc] at hw; exact Bool.noConfusion hw, fun _ => ⟨_, R, hf rfl, RSub.refl _, ?_⟩⟩
    obtain ⟨h1, h2, h3, h4⟩ := hs
    refine ⟨h1, ?_, by rw [Q3]; exact h3, by rw [O7]; exact h4⟩
    have := Z1 (d := o.dst) (x := AV.is undef) (v := undef) h2 (RSub.refl R) (fun q e => by rw [h3]; rw [hd] at e; injection e with e; subst e; exact Nat.blt_eq.mp hn) rfl
    rw [hd] at this ⊢
    exact this
theorem evif_no {E : EnvF} {p : Operand} {b : Bool} {x : AV} (h : b = false) : EvIf E p b x := fun hb => by rw [h] at hb; cases hb
def bandI (x y : Int) : Int := IntKind.u64.wrap (((BitVec.ofInt IntKind.u64.bits x &&& BitVec.ofInt IntKind.u64.bits y).toNat : Nat) : Int)
theorem w_band {E : EnvF} {t ty : TypeId} {p q : Operand} {x y : Int} (ho : o.op = .binOp .and t p q ty) (hp : Ev E p (AV.ik .u64 x)) (hq : Ev E q (AV.ik .u64 y)) : OpW P G n own o E (AV.ik .u64 (bandI x y)) := L5 fun R a w _ he => by
  have h1 : a.eval p = .int .u64 x := H3 hp (by simp [ho, Op.operands]) he
  have h2 : a.eval q = .int .u64 y := H3 hq (by simp [ho, Op.operands]) he
  exact ⟨.int .u64 (bandI x y), by simp only [execOp, ho, h1, h2]; simp [go_sem]; rfl, rfl⟩
theorem Af3 {Inv : List Own → Prop} {md : Region.Mode} {ops : Array Oper} {m i : Nat} {oi : Oper} {x : AV} {L : Array Bool → EnvF → List Own → Prop} (hi : ops[i]? = some oi)
    (hm0 : m = ops.size) (hin : i < m)
    (hdone : ∀ listed E W, L listed E W → ∀ j ∈ Region.ready md ops listed, m ≤ j) :
    ∀ (f : Nat) (listed : Array Bool) (E : EnvF) (W : List Own), HeadInv md ops m listed → Inv W →
      (∀ j oj, ops[j]? = some oj → j ≠ i → listed.getD j true = false → (∀ e ∈ oj.after, Region.binds md e = true → e.on ≠ i) → oi.apart ops oj = true) →
      i ∈ Region.ready md ops listed → (∀ W, Inv W → OpA P G n W ops oi E x) →
      wpAnyB P G n Inv md ops m L f (listed.setIfInBounds i true) (updF oi.dst x E) W → wpAnyB P G n Inv md ops m L (f + 1) listed E W := by
  have put : ∀ {K : EnvF → List Own → Prop} {E : EnvF} {W : List Own}, Inv W → (∀ W, Inv W → OpA P G n W ops oi E x) → K (updF oi.dst x E) W → qB P G n Inv ops i K E W := fun hW hy hK => by
    unfold qB
    simp only [hi]
    exact .inl ⟨x, hy _ hW, hK⟩
  intro f
  induction f with
  | zero =>
    intro listed E W inv hW _ hr hy H
    have hun := (mem_ready.1 hr).1
    refine ⟨fun h => (by rw [h] at hr; cases hr), fun j hj => ?_⟩
    have hjn : j < m := by
      rcases Nat.lt_or_ge j m with h | h
      · exact h
      · obtain ⟨_, oj, hoj, _⟩ := mem_ready.1 hj
        have := (Array.getElem?_eq_some_iff.1 hoj).1
        omega
    refine ⟨hjn, ?_⟩
    by_cases hji : j = i
    · subst hji; exact put hW hy H
    · have := hdone _ _ _ H j (ready_mono hj hji)
      omega
  | succ f ih =>
    intro listed E W inv hW hfree hr hy H
    have hun := (mem_ready.1 hr).1
    refine ⟨fun h => (by rw [h] at hr; cases hr), fun j hj => ?_⟩
    have hjn : j < m := by
      rcases Nat.lt_or_ge j m with h | h
      · exact h
      · obtain ⟨_, oj, hoj, _⟩ := mem_ready.1 hj
        have := (Array.getElem?_eq_some_iff.1 hoj).1
        omega
    refine ⟨hjn, ?_⟩
    by_cases hji : j = i
    · subst hji; exact put hW hy H
    · have h1 := (H.2 j (ready_mono hj hji)).2
      obtain ⟨hjun, oj, hoj, hall⟩ := mem_ready.1 hj
      have hnot : ∀ e ∈ oj.after, Region.binds md e = true → e.on ≠ i := fun e he hb heq => by
        have h1 := hall e he hb
        rw [heq, getD_both hun] at h1
        cases h1
      have h2 := qB_put hoj (hfree j oj hoj hji hjun hnot) hW hy h1
      have hfree' : ∀ k ok, ops[k]? = some ok → k ≠ i → (listed.setIfInBounds j true).getD k true = false →
          (∀ e ∈ ok.after, Region.binds md e = true → e.on ≠ i) → oi.apart ops ok = true := fun k ok hk hki hun hno => by
        refine hfree k ok hk hki ?_ hno
        by_cases hjk : j = k
        · subst hjk; exact hjun
        · rw [getD_set_ne true hjk] at hun; exact hun
      refine Aq0 hW (fun E' W' hW' h3 => ih (listed.setIfInBounds j true) E' W' (inv.set hj hjn) hW' hfree' (ready_mono hr (Ne.symm hji)) h3.1 ?_) h2
      rw [Array.setIfInBounds_comm _ _ hji]
      exact h3.2
def treeZ (md : Region.Mode) (ops : Array Oper) (m : Nat) (ord : OT) : Bool :=
  decide (m = ops.size) && ord.deep m && ordT md ops (ops.size - m) m ord (Array.replicate ops.size false)
theorem r4 {Inv : List Own → Prop} {md : Region.Mode} {ops : Array Oper} {m g : Nat} {K : List (Nat × AV) → List Own → Prop} (hm0 : m = ops.size) :
    ∀ (l : OT) (f : Nat) (listed : Array Bool) (env : List (Nat × AV)) (W : List Own), l.deep f = true → HeadInv md ops m listed → Inv W →
    ordT md ops g m l listed = true → BT P G n Inv ops l env W K →
    wpAnyB P G n Inv md ops m (fun listed' E W => Region.seqB md ops g m listed' = true ∧ ∃ env', E = (getv · env') ∧ K env' W) f listed (getv · env) W
  | .nil, 0, listed, env, W, _, _, _, hB, h => ⟨hB, env, rfl, h⟩
  | .nil, _ + 1, _, _, _, hdp, _, _, _, _ => by cases hdp
  | .pure _ _, 0, _, _, _, hdp, _, _, _, _ => by cases hdp
  | .e1 _ _, 0, _, _, _, hdp, _, _, _, _ => by cases hdp
  | .e2 _ _ _ _, 0, _, _, _, hdp, _, _, _, _ => by cases hdp
  | .pure i l, f + 1, listed, env, W, hdp, inv, hW, hB, h => by
    simp only [ordT, Bool.and_eq_true] at hB
    obtain ⟨⟨⟨hr, hf⟩, hlt⟩, hB'⟩ := hB
    have hkn : i < m := Nat.blt_eq.mp hlt
    have hr' : i ∈ Region.ready md ops listed := by simpa using hr
    obtain ⟨o, ho, x, hx, hK⟩ := h
    refine Af3 ho hm0 hkn (fun listed' E W hL => seqB_ready hL.1) f listed _ W inv hW (Region.free_spec ho hf) hr' hx ?_
    rw [← U5]
    exact r4 hm0 l f _ _ W hdp (inv.set hr' hkn) hW hB' hK
  | .e1 i l, f + 1, listed, env, W, hdp, inv, hW, hB, h => by
    simp only [ordT, Bool.and_eq_true, decide_eq_true_eq] at hB
    obtain ⟨⟨hr, hlt⟩, hB'⟩ := hB
    have hkn : i < m := Nat.blt_eq.mp hlt
    have hr' : i ∈ Region.ready md ops listed := by rw [hr]; simp
    obtain ⟨o, ho, hg, α, ok, W', V, h1, h2, h3⟩ := h
    refine ⟨fun h0 => (by rw [h0] at hr'; cases hr'), fun j hj => ?_⟩
    rw [hr] at hj
    have : j = i := by simpa using hj
    subst this
    refine ⟨hkn, ?_⟩
    unfold qB
    simp only [ho]
    refine .inr ⟨hg, α, ok, W', V, h1, h2, fun a ha => ?_⟩
    rw [← U5]
    exact r4 hm0 l f _ _ (W' a) hdp (inv.set hr' hkn) (h2 a ha) hB' (h3 a ha)
  | .e2 i l k u, f + 1, listed, env, W, hdp, inv, hW, hB, h => by
    simp only [ordT, Bool.and_eq_true, decide_eq_true_eq] at hB
    obtain ⟨⟨⟨⟨hr, hlt⟩, hlt2⟩, hB'⟩, hB2⟩ := hB
    simp only [OT.deep, Bool.and_eq_true] at hdp
    have hkn : i < m := Nat.blt_eq.mp hlt
    have hkn2 : k < m := Nat.blt_eq.mp hlt2
    have hr' : i ∈ Region.ready md ops listed := by rw [hr]; simp
    have hr2 : k ∈ Region.ready md ops listed := by rw [hr]; simp
    obtain ⟨⟨o, ho, hg, α, ok, W', V, h1, h2, h3⟩, ⟨o', ho', hg', α', ok', W'', V', h1', h2', h3'⟩⟩ := h
    refine ⟨fun h0 => (by rw [h0] at hr'; cases hr'), fun j hj => ?_⟩
    rw [hr] at hj
    simp only [List.mem_cons, List.not_mem_nil, or_false] at hj
    rcases hj with hj | hj
    · subst hj
      refine ⟨hkn, ?_⟩
      unfold qB
      simp only [ho]
      refine .inr ⟨hg, α, ok, W', V, h1, h2, fun a ha => ?_⟩
      rw [← U5]
      exact r4 hm0 l f _ _ (W' a) hdp.1 (inv.set hr' hkn) (h2 a ha) hB' (h3 a ha)
    · subst hj
      refine ⟨hkn2, ?_⟩
      unfold qB
      simp only [ho']
      refine .inr ⟨hg', α', ok', W'', V', h1', h2', fun a ha => ?_⟩
      rw [← U5]
      exact r4 hm0 u f _ _ (W'' a) hdp.2 (inv.set hr2 hkn2) (h2' a ha) hB2 (h3' a ha)
theorem AT0 {id : Nat} {l : List Oper} {Q : Exit → AState → Prop} {env : List (Nat × AV)} {own : List Own} (base : List Own) (m : Nat) (ord : OT) (hm : P.follows .mixedOrders = true) (hB : treeZ .any l.toArray m ord = true) (hd : dstOk n l = true) (hb : InvX base own)
  (h : BT P G n (InvX base) l.toArray ord env own (fun env' W => ASeq P G n l.toArray (l.drop m) ⟨W, env'⟩ (Q .normal))) : AWP P G n (.region id l.toArray true) Q ⟨own, env⟩ := fun w0 R0 R a w ⟨h1, h2, h3, h4⟩ => by
 simp only [treeZ, Bool.and_eq_true, decide_eq_true_eq] at hB
 obtain ⟨⟨hm0, hdp⟩, hlex⟩ := hB
 have hn' : m = l.length := by simpa using hm0
 have hdl : (l.drop m).length = l.toArray.size - m := by simp
 have inv0 : HeadInv .any l.toArray m (Array.replicate l.toArray.size false) :=
  ⟨by simp, fun j oj _ hl => (by rw [getD_replicate_false] at hl; cases hl), fun t _ ht => getD_in (by simpa using ht) (getD_replicate_false _ _)⟩
 have H := r4 (g := l.toArray.size - m) hm0 ord m _ env own hdp inv0 hb hlex h
 refine wp_region_any hm ?_
 have := i5 (w0 := w0) (R0 := R0) (R00 := R) (g := l.toArray.size - m) (Q' := fun e a' w' => ∃ s' R', Q e s' ∧ RSub R R' ∧ St G n w0 R0 s' R' a' w') (fun i o ho d e => q9 hd i o (by simpa using ho) d e) (fun listed E W R' a' w' g1 g2 g3 g4 g5 hL => by
  obtain ⟨hL1, env', rfl, hL2⟩ := hL
  have := wpAny_of_seq (P := P) (md := .any) (Q' := fun e a' w' => ∃ s' R', Q e s' ∧ RSub R R' ∧ St G n w0 R0 s' R' a' w') (l.drop m) m listed a' w' (fun j => by simp [List.getElem?_drop]) (by rw [hdl]; exact hL1)
   (Z9 (R00 := R) (K := Q .normal) (fun s' R' a w q r1 r2 => ⟨s', R', q, r1, r2⟩) _ (⟨W, env'⟩ : AState) R' a' w' g1 ⟨g2, g3, g4, g5⟩ hL2)
  rwa [hdl] at this) _ _ _ own R a _ (RSub.refl _) (o7 h1) h2 h3 h4 H
 rw [show m + (l.toArray.size - m) = l.toArray.size by omega] at this
 exact this
end
end Go.AV

set_option linter.unusedVariables false
set_option linter.unusedSimpArgs false
namespace Go.AV
section
variable {P : Program} {G : Nat → Prop} {n : Nat} {own : List Own} {o : Oper}
def OwnC (sel : List Own) : Own → Own → Prop
  | .box b t cs, .box b' t' cs' => b = b' ∧ t = t' ∧ LendC sel cs cs'
  | .arr v t sz es, .arr v' t' sz' es' => v = v' ∧ t = t' ∧ sz = sz' ∧ LendE sel es es'
  | .frz b t cs, .frz b' t' cs' => b = b' ∧ t = t' ∧ LendC sel cs cs'
  | .tab T, .tab T' => T = T'
  | _, _ => False
def OwnsC (sel own own' : List Own) : Prop := own.length = own'.length ∧ ∀ (i : Nat) (q q' : Own), own[i]? = some q → own'[i]? = some q' → OwnC sel q q'
theorem oc_nil {sel : List Own} : OwnsC sel [] [] := ⟨rfl, fun i q q' h => by simp at h⟩
theorem oc_cons {sel a b : List Own} {q q' : Own} (h : OwnC sel q q') (k : OwnsC sel a b) : OwnsC sel (q :: a) (q' :: b) := ⟨by simp [k.1], fun i x y hx hy => by
  cases i with
  | zero => simp at hx hy; subst hx; subst hy; exact h
  | succ i => exact k.2 i x y (by simpa using hx) (by simpa using hy)⟩
theorem oc_blk {sel : List Own} {q q' : Own} (h : OwnC sel q q') : Own.blk q = Own.blk q' := by
  cases q <;> cases q' <;> unfold OwnC at h
  · exact congrArg some h.1
  · exact h.elim
  · exact h.elim
  · exact h.elim
  · exact h.elim
  · exact congrArg Value.ownBlock h.1
  · exact h.elim
  · exact h.elim
  · exact h.elim
  · exact h.elim
  · exact congrArg some h.1
  · exact h.elim
  · exact h.elim
  · exact h.elim
  · exact h.elim
  · rfl
theorem oc_map {sel a b : List Own} (h : OwnsC sel a b) : a.map Own.blk = b.map Own.blk := by
  refine List.ext_getElem? fun i => ?_
  rw [List.getElem?_map, List.getElem?_map]
  cases ha : a[i]? with
  | none =>
    have : b[i]? = none := by rw [List.getElem?_eq_none_iff] at ha ⊢; rw [← h.1]; exact ha
    rw [this]
  | some q =>
    have hi : i < b.length := by rw [← h.1]; exact (List.getElem?_eq_some_iff.1 ha).1
    rw [List.getElem?_eq_getElem hi]
    exact congrArg some (oc_blk (h.2 i q _ ha (List.getElem?_eq_getElem hi)))
theorem oc_fm {sel a b : List Own} (h : OwnsC sel a b) : a.filterMap Own.blk = b.filterMap Own.blk := by
  have := congrArg (List.filterMap id) (oc_map h)
  rwa [List.filterMap_map, List.filterMap_map] at this
theorem AM6 {sel : List Own} {xs ys : List AV} {w0 : World} {R0 R : RHeap} {w : World} {vs : List Value} (hc : Core G w0 R0 sel R w) (h : DenC R vs xs) (k : LendC sel xs ys) : DenC (lend sel w R) vs ys :=
  ⟨h.1.trans k.1, fun i v y hv hy => by
    have hi : i < xs.length := by rw [k.1]; exact (List.getElem?_eq_some_iff.1 hy).1
    have hx := List.getElem?_eq_getElem hi
    obtain ⟨h1, h2⟩ := h.2 i v _ hv hx
    exact ⟨k.2 i _ y hx hy G w0 R0 R w v hc h1, h2⟩⟩
theorem AW1 {sel rest rest' : List Own} {w0 : World} {R0 R : RHeap} {w : World} (h : Core G w0 R0 (sel ++ rest) R w) (hG : ∀ b, G b → b ∈ rest.filterMap Own.blk) (hl : OwnsC sel rest rest') : Core G w0 R0 rest' (lend sel w R) w := by
  have hb := AI5 h hG
  have hs := U0 h
  refine ⟨hb.os, hb.tape, hb.output, hb.size, hb.block, hb.rle, hb.rold, fun q' hq' => ?_, fun q' hq' b hqb => ?_, ?_⟩
  · obtain ⟨i, hi⟩ := List.getElem?_of_mem hq'
    have hir : i < rest.length := by rw [hl.1]; exact (List.getElem?_eq_some_iff.1 hi).1
    have hr := List.getElem?_eq_getElem hir
    have hm := G2 hr
    have hoc := hl.2 i _ q' hr hi
    have k1 := hb.owned _ hm
    have k2 := h.owned _ (List.mem_append_right _ hm)
    revert hoc k1 k2
    generalize rest[i] = q
    intro hoc k1 k2
    cases q <;> cases q' <;> unfold OwnC at hoc
    · obtain ⟨rfl, rfl, hc⟩ := hoc
      obtain ⟨_, vs, hv, hd⟩ := k2
      exact ⟨k1.1, vs, hv, AM6 hs hd hc⟩
    · exact hoc.elim
    · exact hoc.elim
    · exact hoc.elim
    · exact hoc.elim
    · obtain ⟨rfl, rfl, rfl, hc⟩ := hoc
      obtain ⟨_, hlen, xs, hx, hd⟩ := k2
      refine ⟨k1.1, fun e he => ?_, xs, ?_, AM6 hs hd (AY0 hc)⟩
      · obtain ⟨j, hj⟩ := List.getElem?_of_mem he
        have hje := List.getElem?_eq_getElem (show j < _ from hc.1.symm ▸ (List.getElem?_eq_some_iff.1 hj).1)
        rw [← (hc.2 j _ e hje hj).1]
        exact hlen _ (G2 hje)
      · rw [← hc.1]; exact hx
    · exact hoc.elim
    · exact hoc.elim
    · exact hoc.elim
    · exact hoc.elim
    · obtain ⟨rfl, rfl, hc⟩ := hoc
      obtain ⟨_, vs, hv, hd⟩ := k2
      exact ⟨k1.1, vs, hv, AM6 hs hd hc⟩
    · exact hoc.elim
    · exact hoc.elim
    · exact hoc.elim
    · exact hoc.elim
    · exact hoc ▸ k1
  · have hm : (some b) ∈ rest'.map Own.blk := List.mem_map.2 ⟨q', hq', hqb⟩
    rw [← oc_map hl] at hm
    obtain ⟨q, hq, hqb2⟩ := List.mem_map.1 hm
    exact hb.fresh q hq b hqb2
  · rw [← oc_fm hl]; exact hb.sep
theorem AQ7 {α β : Type} {f : FuncId} {xs : List AV} {inw : List Own} {ok : α → Prop} {O : α → List Own} {V : α → AV} {ok' : β → Prop} {O' : β → List Own} {V' : β → AV} (g : α → β) (S rest : α → List Own) (hs : GSpec P f xs inw ok O V)
    (hok : ∀ a, ok a → ok' (g a)) (hV : ∀ a, ok a → LendTo (S a) (V a) (V' (g a))) (hp : ∀ a, ok a → (O a).Perm (S a ++ rest a)) (hG : ∀ a, ok a → ∀ b, blksOf inw b → b ∈ (rest a).filterMap Own.blk) (hl : ∀ a, ok a → OwnsC (S a) (rest a) (O' (g a))) : GSpec P f xs inw ok' O' V' := fun R w vs hr hd ho hn =>
  (hs R w vs hr hd ho hn).mono fun e w' ⟨a, v, R', h0, h1, h2, h3⟩ => by
    have hc := Z3 h3 (hp a h0)
    exact ⟨g a, v, lend (S a) w' R', hok a h0, h1, hV a h0 _ _ _ R' w' v (U0 hc) h2, AW1 hc (hG a h0) (hl a h0)⟩
theorem oc_refl {sel : List Own} (q : Own) : OwnC sel q q := by
  cases q with
  | box b t cs => exact ⟨rfl, rfl, AF1⟩
  | arr v t sz es => exact ⟨rfl, rfl, rfl, I7⟩
  | frz b t cs => exact ⟨rfl, rfl, AF1⟩
  | tab T => exact rfl
theorem oc_set {sel l : List Own} {i : Nat} {q q' : Own} (hi : l[i]? = some q) (hc : OwnC sel q q') : OwnsC sel l (l.set i q') := ⟨by simp, fun j x y hx hy => by
  by_cases h : i = j
  · subst h
    rw [List.getElem?_set_self (List.getElem?_eq_some_iff.1 hi).1] at hy
    rw [hi] at hx
    injection hx with hx; injection hy with hy; subst hx; subst hy; exact hc
  · rw [List.getElem?_set_ne h, hx] at hy
    injection hy with hy; subst hy; exact oc_refl _⟩
theorem s8 {env : List (Nat × AV)} {sel rest : List Own} {q : Own} (is : List Nat) (i : Nat) (q' : Own) (hp : pick own is = (sel, rest)) (hi : rest[i]? = some q) (hc : OwnC sel q q') (hG : ∀ b, G b → b ∈ rest.filterMap Own.blk) : Le G n ⟨own, env⟩ ⟨rest.set i q', env⟩ := fun w0 R0 R a w ⟨h1, h2, h3⟩ => by
  have hk := g7 h1 hp
  exact ⟨lend sel w R, e7 (U0 hk), AW1 hk hG (oc_set hi hc), fun t z hz => z.mono (e7 (U0 hk)) (h2 t z hz), h3⟩
section
variable {T X : Type} {ocs : T → X → List AV} {cs : T → List AV} {ow : T → X → List Own}
end
end
end Go.AV

set_option linter.unusedVariables false
set_option linter.unusedSimpArgs false
namespace Go.AV
section
variable {P : Program} {G : Nat → Prop} {n : Nat} {own : List Own} {o : Oper} {E : EnvF}
@[reducible] def byteC (b : UInt8) : List AV := [AV.ik .u8 b.toNat]
end
end Go.AV

set_option linter.unusedVariables false
set_option linter.unusedSimpArgs false
set_option maxRecDepth 100000
namespace Go.Proofs.YtnlhbdkcgaeimaaGreat
open Go Go.AV Go.M
attribute [local irreducible] OpW OpA OpS AWP FSpec ESpec RetOk RvDen Le Ev GuardIs
end Go.Proofs.YtnlhbdkcgaeimaaGreat

set_option linter.unusedVariables false
set_option linter.unusedSimpArgs false
set_option maxRecDepth 100000
namespace Go.M
open Go.AV
end Go.M
namespace Go.Proofs.YtnlhbdkcgaeimaaGreat
open Go Go.AV Go.M
attribute [local irreducible] OpW OpA OpS AWP FSpec ESpec GSpec OpE RetOk RetOkG RvDen Le Ev GuardIs SrcIs Int.tmod Int.tdiv IntKind.wrap
end Go.Proofs.YtnlhbdkcgaeimaaGreat

set_option linter.unusedVariables false
set_option linter.unusedSimpArgs false
set_option maxRecDepth 100000
namespace Go.M
open Go.AV
end Go.M
namespace Go.Proofs.YtnlhbdkcgaeimaaGreat
open Go Go.AV Go.M
attribute [local irreducible] OpW OpA OpS AWP FSpec ESpec GSpec OpE RetOk RetOkG RvDen Le Ev GuardIs SrcIs Int.tmod Int.tdiv IntKind.wrap
end Go.Proofs.YtnlhbdkcgaeimaaGreat

set_option linter.unusedVariables false
set_option linter.unusedSimpArgs false
set_option maxRecDepth 100000
namespace Go.M
open Go.AV
end Go.M
namespace Go.Proofs.YtnlhbdkcgaeimaaGreat
open Go Go.AV Go.M
attribute [local irreducible] OpW OpA OpS AWP FSpec ESpec GSpec OpE RetOk RetOkG RvDen Le Ev GuardIs SrcIs Int.tmod Int.tdiv IntKind.wrap
end Go.Proofs.YtnlhbdkcgaeimaaGreat

set_option linter.unusedVariables false
set_option linter.unusedSimpArgs false
set_option maxRecDepth 100000
set_option maxHeartbeats 1000000
namespace Go.M
open Go.AV
end Go.M
namespace Go.Proofs.YtnlhbdkcgaeimaaGreat
open Go Go.AV Go.M
attribute [local irreducible] OpW OpA OpS AWP FSpec ESpec GSpec OpE RetOk RetOkG RvDen Le Ev GuardIs SrcIs
end Go.Proofs.YtnlhbdkcgaeimaaGreat

set_option linter.unusedVariables false
set_option linter.unusedSimpArgs false
namespace Go.M
open Go.AV
structure TCur where
  p : Nat
  seed : Int
def bytesI (l : List Int) : AV := AV.list 1 (l.map fun x => [AV.ik .u8 x])
def curC (code : List Int) (c : TCur) : List AV := [bytesI code, AV.int c.p, AV.ik .u64 c.seed]
def ByteL (code : List Int) : Prop := ∀ x ∈ code, 0 ≤ x ∧ x ≤ 255
theorem Aj6 {l : List Int} (h : ∀ x ∈ l, (Lit.int .u8 x).wf = true) : ByteL l := fun x hx => by
  have := h x hx
  simp only [Lit.wf, IntKind.min, IntKind.max, IntKind.signed, IntKind.bits] at this
  simp at this
  omega
theorem AP1 {x : Int} (h : 0 ≤ x ∧ x ≤ 255) : IntKind.i64.wrap x = x := in64 (by omega)
theorem g9 (x : Int) : 0 ≤ bandI x 255 ∧ bandI x 255 ≤ 255 := by
  unfold bandI
  have h1 : (BitVec.ofInt IntKind.u64.bits x &&& BitVec.ofInt IntKind.u64.bits 255).toNat ≤ 255 := by
    rw [BitVec.toNat_and]
    exact Nat.le_trans Nat.and_le_right (by decide)
  generalize (BitVec.ofInt IntKind.u64.bits x &&& BitVec.ofInt IntKind.u64.bits 255).toNat = n at h1
  unfold IntKind.wrap
  simp [IntKind.bits, IntKind.signed]
  omega
def bigB (code more : List Int) : Bool := decide ((1048576 : Int) < code.length) || decide ((1048576 : Int) - code.length < more.length)
end Go.M

set_option linter.unusedVariables false
set_option linter.unusedSimpArgs false
set_option maxRecDepth 100000
namespace Go.Proofs.YtnlhbdkcgaeimaaGreat
open Go Go.AV Go.M
attribute [local irreducible] OpW OpA OpS AWP FSpec ESpec GSpec OpE RetOk RetOkG RvDen Le Ev GuardIs SrcIs Int.tmod IntKind.wrap bandI
theorem AQ8 (b : Nat) (code : List Int) (hcode : ByteL code) (c : TCur) (hp : c.p ≤ 8000000) : GSpec Tryz.prog 197 [AV.ptr b 0] [.box b 127 (curC code c)] (fun x : TCur × Int => x.1.p ≤ c.p + 1 ∧ 0 ≤ x.2 ∧ x.2 ≤ 255) (fun x => [.box b 127 (curC code x.1)]) (fun x => AV.int x.2) := by
 have hcb := hcode
 refine H7 Tryz.func197 rfl Tryz.ntmps197 rfl ?_
 refine A3 (A2 ?_)
 refine A1 rfl rfl rfl (C0 rfl C2) ?_
 refine A4 (A3 (A2 ?_))
 try rw [AP1 hzb]
 refine A1 rfl rfl rfl (C0 rfl C2) ?_
 refine A4 (A3 (A3 ?_))
 refine K9 (by kernel_rfl) (by kernel_rfl) rfl ?_
 refine B7 rfl rfl (C6 rfl (A0 rfl)) ?_
 refine B7 rfl rfl (X9 rfl (A0 rfl)) ?_
 refine B7 rfl rfl (B4 1 rfl L6 rfl C1 (A0 rfl) rfl) ?_
 refine B7 rfl rfl (B3 0 rfl (A0 rfl) rfl D1 rfl) ?_
 refine B7 rfl rfl (C6 rfl (A0 rfl)) ?_
 refine B7 rfl rfl (X9 rfl (A0 rfl)) ?_
 refine B7 rfl rfl (B4 0 rfl L6 rfl Tryz.sizeOf22 (A0 rfl) rfl) ?_
 refine B7 rfl rfl (B3 0 rfl (A0 rfl) rfl Tryz.isAgg22 rfl) ?_
 refine B7 rfl rfl (I5 rfl S6 (A0 rfl)) ?_
 refine B7 rfl rfl (L4 rfl (A0 rfl) (A0 rfl)) ?_
 refine P7 ?_
 refine C8 (A0 rfl) ?_ ?_
 ·intro h13
  have k13 := of_decide_eq_true h13; try simp only [A6] at k13
  obtain ⟨z, hz⟩ := get_some (show c.p < code.length by omega)
  have hzb := hcb z (G2 hz)
  refine K9 (by kernel_rfl) (by kernel_rfl) rfl ?_
  refine B7 rfl rfl (C6 rfl (A0 rfl)) ?_
  refine B7 rfl rfl (X9 rfl (A0 rfl)) ?_
  refine B7 rfl rfl (B4 0 rfl L6 rfl Tryz.sizeOf22 (A0 rfl) rfl) ?_
  refine B7 rfl rfl (B3 0 rfl (A0 rfl) rfl Tryz.isAgg22 rfl) ?_
  refine B7 rfl rfl (C6 rfl (A0 rfl)) ?_
  refine B7 rfl rfl (X9 rfl (A0 rfl)) ?_
  refine B7 rfl rfl (B4 1 rfl L6 rfl C1 (A0 rfl) rfl) ?_
  refine B7 rfl rfl (B3 0 rfl (A0 rfl) rfl D1 rfl) ?_
  refine B7 rfl rfl (K0 rfl S6 Tryz.sizeOf5 (A0 rfl) (A0 rfl) hz rfl) ?_
  refine B7 rfl rfl (O8 rfl (A0 rfl) Tryz.isAgg5 rfl) ?_
  refine B7 rfl rfl (f8 rfl (by kernel_rfl) S2 (A0 rfl)) ?_
  try rw [AP1 hzb]
  refine B7 rfl rfl (C0 rfl (A0 rfl)) ?_
  refine P7 ?_
  refine A3 (A2 ?_)
  refine A5 rfl rfl rfl rfl rfl ?_
  refine A1 rfl rfl rfl (X9 rfl (A0 rfl)) ?_
  refine A1 rfl rfl rfl (B4 1 rfl L6 rfl C1 (A0 rfl) rfl) ?_
  refine A1 rfl rfl rfl (B3 0 rfl (A0 rfl) rfl D1 rfl) ?_
  refine A1 rfl rfl rfl (H0 rfl (A0 rfl) C2 (by first | omega | (simp only [A6, A8, B2, B6, A9, szR] at *; omega))) ?_
  refine A1 rfl rfl rfl (X9 rfl (A0 rfl)) ?_
  refine A1 rfl rfl rfl (B4 1 rfl L6 rfl C1 (A0 rfl) rfl) ?_
  refine J4 0 rfl rfl rfl (A0 rfl) (A0 rfl) (K6 _ _) rfl C1 rfl ?_
  refine A4 (A3 (A2 ?_))
  refine A5 rfl rfl rfl rfl rfl ?_
  refine A5 rfl rfl rfl rfl rfl ?_
  refine A1 rfl rfl rfl (X9 rfl (A0 rfl)) ?_
  refine A1 rfl rfl rfl (B4 2 rfl L6 rfl W1 (A0 rfl) rfl) ?_
  refine A1 rfl rfl rfl (B3 0 rfl (A0 rfl) rfl Tryz.isAgg125 rfl) ?_
  refine A1 rfl rfl rfl (w_mul rfl (A0 rfl) C2) ?_
  refine A5 rfl rfl rfl rfl rfl ?_
  refine A1 rfl rfl rfl (f8 rfl (by kernel_rfl) Tryz.underlying125 (A0 rfl)) ?_
  refine A1 rfl rfl rfl (AU3 rfl (A0 rfl) (A0 rfl)) ?_
  refine A1 rfl rfl rfl (AU3 rfl (A0 rfl) C2) ?_
  refine A1 rfl rfl rfl (X9 rfl (A0 rfl)) ?_
  refine A1 rfl rfl rfl (B4 2 rfl L6 rfl W1 (A0 rfl) rfl) ?_
  refine J4 0 rfl rfl rfl (A0 rfl) (A0 rfl) (K6 _ _) rfl W1 rfl ?_
  refine A4 (A3 (A3 ?_))
  refine K9 (by kernel_rfl) (by kernel_rfl) rfl ?_
  refine B7 rfl rfl (C6 rfl (A0 rfl)) ?_
  refine B7 rfl rfl (X9 rfl (A0 rfl)) ?_
  refine B7 rfl rfl (B4 1 rfl L6 rfl C1 (A0 rfl) rfl) ?_
  refine B7 rfl rfl (B3 0 rfl (A0 rfl) rfl D1 rfl) ?_
  refine B7 rfl rfl (C6 rfl (A0 rfl)) ?_
  refine B7 rfl rfl (X9 rfl (A0 rfl)) ?_
  refine B7 rfl rfl (B4 0 rfl L6 rfl Tryz.sizeOf22 (A0 rfl) rfl) ?_
  refine B7 rfl rfl (B3 0 rfl (A0 rfl) rfl Tryz.isAgg22 rfl) ?_
  refine B7 rfl rfl (I5 rfl S6 (A0 rfl)) ?_
  refine B7 rfl rfl (T6 rfl (A0 rfl) (A0 rfl)) ?_
  refine P7 ?_
  refine C8 (A0 rfl) ?_ ?_
  ·intro h53
   have k53 := of_decide_eq_true h53; try simp only [A6] at k53
   refine A3 (A2 ?_)
   refine A5 rfl rfl rfl rfl rfl ?_
   refine B5 rfl rfl rfl rfl rfl ?_
   refine A4 ?_
   refine C7 ?_
   (refine J6 [0] ((⟨c.p + 1, _⟩, _)) ?_ rfl (by first | (dsimp only; rfl) | rfl) (N2 rfl (C3 rfl (by first | rfl | (refine congrArg AV.bool ?_; simp_all; done)))); first | exact ⟨Nat.le_refl _, hzb⟩ | exact ⟨Nat.le_refl _, Int.le_refl 0, (show (0 : Int) ≤ 255 by decide)⟩ | (rw [AP1 (g9 _)]; exact ⟨Nat.le_refl _, g9 _⟩))
  ·intro h53
   have k53 := of_decide_eq_false h53; try simp only [A6] at k53
   refine D2 (A3 (A2 ?_))
   refine A5 rfl rfl rfl rfl rfl ?_
   refine A1 rfl rfl rfl (X9 rfl (A0 rfl)) ?_
   refine A1 rfl rfl rfl (B4 2 rfl L6 rfl W1 (A0 rfl) rfl) ?_
   refine A1 rfl rfl rfl (B3 0 rfl (A0 rfl) rfl Tryz.isAgg125 rfl) ?_
   refine A1 rfl rfl rfl (AN8 rfl (A0 rfl) C2 (by decide) (by decide)) ?_
   refine A1 rfl rfl rfl (w_band rfl (A0 rfl) C2) ?_
   refine A1 rfl rfl rfl (f8 rfl (by kernel_rfl) S2 (A0 rfl)) ?_
   refine B5 rfl rfl rfl rfl rfl ?_
   refine A4 ?_
   refine C7 ?_
   (refine J6 [0] ((⟨c.p + 1, _⟩, _)) ?_ rfl (by first | (dsimp only; rfl) | rfl) (N2 rfl (C3 rfl (by first | rfl | (refine congrArg AV.bool ?_; simp_all; done)))); first | exact ⟨Nat.le_refl _, hzb⟩ | exact ⟨Nat.le_refl _, Int.le_refl 0, (show (0 : Int) ≤ 255 by decide)⟩ | (rw [AP1 (g9 _)]; exact ⟨Nat.le_refl _, g9 _⟩))
 ·intro h13
  have k13 := of_decide_eq_false h13; try simp only [A6] at k13
  refine D2 (A3 (A2 ?_))
  refine A5 rfl rfl rfl rfl rfl ?_
  refine A1 rfl rfl rfl (X9 rfl (A0 rfl)) ?_
  refine A1 rfl rfl rfl (B4 1 rfl L6 rfl C1 (A0 rfl) rfl) ?_
  refine A1 rfl rfl rfl (B3 0 rfl (A0 rfl) rfl D1 rfl) ?_
  refine A1 rfl rfl rfl (H0 rfl (A0 rfl) C2 (by first | omega | (simp only [A6, A8, B2, B6, A9, szR] at *; omega))) ?_
  refine A1 rfl rfl rfl (X9 rfl (A0 rfl)) ?_
  refine A1 rfl rfl rfl (B4 1 rfl L6 rfl C1 (A0 rfl) rfl) ?_
  refine J4 0 rfl rfl rfl (A0 rfl) (A0 rfl) (K6 _ _) rfl C1 rfl ?_
  refine A4 (A3 (A2 ?_))
  refine A5 rfl rfl rfl rfl rfl ?_
  refine A5 rfl rfl rfl rfl rfl ?_
  refine A1 rfl rfl rfl (X9 rfl (A0 rfl)) ?_
  refine A1 rfl rfl rfl (B4 2 rfl L6 rfl W1 (A0 rfl) rfl) ?_
  refine A1 rfl rfl rfl (B3 0 rfl (A0 rfl) rfl Tryz.isAgg125 rfl) ?_
  refine A1 rfl rfl rfl (w_mul rfl (A0 rfl) C2) ?_
  refine A5 rfl rfl rfl rfl rfl ?_
  refine A1 rfl rfl rfl (f8 rfl (by kernel_rfl) Tryz.underlying125 (A0 rfl)) ?_
  refine A1 rfl rfl rfl (AU3 rfl (A0 rfl) (A0 rfl)) ?_
  refine A1 rfl rfl rfl (AU3 rfl (A0 rfl) C2) ?_
  refine A1 rfl rfl rfl (X9 rfl (A0 rfl)) ?_
  refine A1 rfl rfl rfl (B4 2 rfl L6 rfl W1 (A0 rfl) rfl) ?_
  refine J4 0 rfl rfl rfl (A0 rfl) (A0 rfl) (K6 _ _) rfl W1 rfl ?_
  refine A4 (A3 (A3 ?_))
  refine K9 (by kernel_rfl) (by kernel_rfl) rfl ?_
  refine B7 rfl rfl (C6 rfl (A0 rfl)) ?_
  refine B7 rfl rfl (X9 rfl (A0 rfl)) ?_
  refine B7 rfl rfl (B4 1 rfl L6 rfl C1 (A0 rfl) rfl) ?_
  refine B7 rfl rfl (B3 0 rfl (A0 rfl) rfl D1 rfl) ?_
  refine B7 rfl rfl (C6 rfl (A0 rfl)) ?_
  refine B7 rfl rfl (X9 rfl (A0 rfl)) ?_
  refine B7 rfl rfl (B4 0 rfl L6 rfl Tryz.sizeOf22 (A0 rfl) rfl) ?_
  refine B7 rfl rfl (B3 0 rfl (A0 rfl) rfl Tryz.isAgg22 rfl) ?_
  refine B7 rfl rfl (I5 rfl S6 (A0 rfl)) ?_
  refine B7 rfl rfl (T6 rfl (A0 rfl) (A0 rfl)) ?_
  refine P7 ?_
  refine C8 (A0 rfl) ?_ ?_
  ·intro h53
   have k53 := of_decide_eq_true h53; try simp only [A6] at k53
   refine A3 (A2 ?_)
   refine A5 rfl rfl rfl rfl rfl ?_
   refine B5 rfl rfl rfl rfl rfl ?_
   refine A4 ?_
   refine C7 ?_
   (refine J6 [0] ((⟨c.p + 1, _⟩, _)) ?_ rfl (by first | (dsimp only; rfl) | rfl) (N2 rfl (C3 rfl (by first | rfl | (refine congrArg AV.bool ?_; simp_all; done)))); first | exact ⟨Nat.le_refl _, hzb⟩ | exact ⟨Nat.le_refl _, Int.le_refl 0, (show (0 : Int) ≤ 255 by decide)⟩ | (rw [AP1 (g9 _)]; exact ⟨Nat.le_refl _, g9 _⟩))
  ·intro h53
   have k53 := of_decide_eq_false h53; try simp only [A6] at k53
   refine D2 (A3 (A2 ?_))
   refine A5 rfl rfl rfl rfl rfl ?_
   refine A1 rfl rfl rfl (X9 rfl (A0 rfl)) ?_
   refine A1 rfl rfl rfl (B4 2 rfl L6 rfl W1 (A0 rfl) rfl) ?_
   refine A1 rfl rfl rfl (B3 0 rfl (A0 rfl) rfl Tryz.isAgg125 rfl) ?_
   refine A1 rfl rfl rfl (AN8 rfl (A0 rfl) C2 (by decide) (by decide)) ?_
   refine A1 rfl rfl rfl (w_band rfl (A0 rfl) C2) ?_
   refine A1 rfl rfl rfl (f8 rfl (by kernel_rfl) S2 (A0 rfl)) ?_
   refine B5 rfl rfl rfl rfl rfl ?_
   refine A4 ?_
   refine C7 ?_
   (refine J6 [0] ((⟨c.p + 1, _⟩, _)) ?_ rfl (by first | (dsimp only; rfl) | rfl) (N2 rfl (C3 rfl (by first | rfl | (refine congrArg AV.bool ?_; simp_all; done)))); first | exact ⟨Nat.le_refl _, hzb⟩ | exact ⟨Nat.le_refl _, Int.le_refl 0, (show (0 : Int) ≤ 255 by decide)⟩ | (rw [AP1 (g9 _)]; exact ⟨Nat.le_refl _, g9 _⟩))
theorem S4 (b : Nat) (code : List Int) (hcode : ByteL code) (c : TCur) (n : Int) (hn : n ≤ 1000000) (hp : c.p ≤ 7000000) : GSpec Tryz.prog 100 [AV.ptr b 0, AV.int n] [.box b 127 (curC code c)] (fun x : TCur × Int => x.1.p ≤ c.p + 2 ∧ 0 ≤ x.2 ∧ (x.2 < n ∨ x.2 = 0)) (fun x => [.box b 127 (curC code x.1)]) (fun x => AV.int x.2) := by
 refine H7 Tryz.func100 rfl Tryz.ntmps100 rfl ?_
 refine A3 (A2 ?_)
 refine A1 rfl rfl rfl (C0 rfl C2) ?_
 refine A4 (A3 (A3 (A2 ?_)))
 refine A5 rfl rfl rfl rfl rfl ?_
 refine A1 rfl rfl rfl (T6 rfl (A0 rfl) C2) ?_
 refine A4 ?_
 refine C8 (A0 rfl) ?_ ?_
 ·intro h7
  have k7 := of_decide_eq_true h7; try simp only [A6] at k7
  refine A3 (A2 ?_)
  refine A1 rfl rfl rfl (C0 rfl C2) ?_
  refine A4 ?_
  refine C7 ?_
  (refine J6 [0] ((_, _)) ?_ rfl (by first | (dsimp only; rfl) | rfl) (N2 rfl (C3 rfl (by first | rfl | (refine congrArg AV.bool ?_; simp_all; done)))); (dsimp only; first | omega | exact ⟨by omega, Int.tmod_nonneg _ (by omega), .inl (Int.tmod_lt_of_pos _ (by omega))⟩))
 ·intro h7
  have k7 := of_decide_eq_false h7; try simp only [A6] at k7
  refine D2 (A3 (A2 ?_))
  refine A5 rfl rfl rfl rfl rfl ?_
  refine I0 [0] rfl rfl rfl rfl Tryz.call197 rfl (AQ8 _ _ hcode _ (by omega)) (A7 (A0 rfl) C9) rfl ?_
  intro x9 ok9
  refine B5 rfl rfl rfl rfl rfl ?_
  refine A4 (A3 (A3 (A2 ?_)))
  refine A5 rfl rfl rfl rfl rfl ?_
  refine A1 rfl rfl rfl (P1 rfl (A0 rfl) C2) ?_
  refine A4 ?_
  refine C8 (A0 rfl) ?_ ?_
  ·intro h11
   have k11 := of_decide_eq_true h11; try simp only [A6] at k11
   refine A2 ?_
   refine A5 rfl rfl rfl rfl rfl ?_
   refine A1 rfl rfl rfl (w_muli rfl (A0 rfl) C2 (by first | omega | (simp only [A6, A8, B2, B6, A9, szR] at *; omega))) ?_
   refine A5 rfl rfl rfl rfl rfl ?_
   refine I0 [0] rfl rfl rfl rfl Tryz.call197 rfl (AQ8 _ _ hcode _ (by omega)) (A7 (A0 rfl) C9) rfl ?_
   intro x15 ok15
   refine A1 rfl rfl rfl (H0 rfl (A0 rfl) (A0 rfl) (by first | omega | (simp only [A6, A8, B2, B6, A9, szR] at *; omega))) ?_
   refine B5 rfl rfl rfl rfl rfl ?_
   refine A4 (A3 (A2 ?_))
   refine A5 rfl rfl rfl rfl rfl ?_
   refine A5 rfl rfl rfl rfl rfl ?_
   refine A1 rfl rfl rfl (w_rem rfl (A0 rfl) (A0 rfl) (by omega)) ?_
   refine B5 rfl rfl rfl rfl rfl ?_
   refine A4 ?_
   refine C7 ?_
   (refine J6 [0] ((_, _)) ?_ rfl (by first | (dsimp only; rfl) | rfl) (N2 rfl (C3 rfl (by first | rfl | (refine congrArg AV.bool ?_; simp_all; done)))); (dsimp only; first | omega | exact ⟨by omega, Int.tmod_nonneg _ (by omega), .inl (Int.tmod_lt_of_pos _ (by omega))⟩))
  ·intro h11
   have k11 := of_decide_eq_false h11; try simp only [A6] at k11
   refine D2 (A3 (A2 ?_))
   refine A5 rfl rfl rfl rfl rfl ?_
   refine A5 rfl rfl rfl rfl rfl ?_
   refine A1 rfl rfl rfl (w_rem rfl (A0 rfl) (A0 rfl) (by omega)) ?_
   refine B5 rfl rfl rfl rfl rfl ?_
   refine A4 ?_
   refine C7 ?_
   (refine J6 [0] ((_, _)) ?_ rfl (by first | (dsimp only; rfl) | rfl) (N2 rfl (C3 rfl (by first | rfl | (refine congrArg AV.bool ?_; simp_all; done)))); (dsimp only; first | omega | exact ⟨by omega, Int.tmod_nonneg _ (by omega), .inl (Int.tmod_lt_of_pos _ (by omega))⟩))
theorem AI6 (b : Nat) (code : List Int) (hcode : ByteL code) (c : TCur) (n : Int) (hn : n ≤ 1000000) (hp : c.p ≤ 7000000) : GSpec Tryz.prog 79 [AV.ptr b 0, AV.int n] [.box b 127 (curC code c)] (fun x : TCur × Bool => x.1.p ≤ c.p + 2) (fun x => [.box b 127 (curC code x.1)]) (fun x => AV.bool x.2) := by
 refine H7 Tryz.func79 rfl Tryz.ntmps79 rfl ?_
 refine A3 (A2 ?_)
 refine A1 rfl rfl rfl (C0 rfl F3) ?_
 refine A4 (A3 (A2 ?_))
 refine A5 rfl rfl rfl rfl rfl ?_
 refine A5 rfl rfl rfl rfl rfl ?_
 refine I0 [0] rfl rfl rfl rfl Tryz.call100 rfl (S4 _ _ hcode _ _ (by omega) (by omega)) (A7 (A0 rfl) (A7 (A0 rfl) C9)) rfl ?_
 intro x7 ok7
 refine A1 rfl rfl rfl (M0 rfl (A0 rfl) C2) ?_
 refine B5 rfl rfl rfl rfl rfl ?_
 refine A4 ?_
 refine C7 ?_
 (refine J6 [0] ((_, _)) ?_ rfl (by first | (dsimp only; rfl) | rfl) (N2 rfl (C3 rfl (by rfl))); exact ok7.1)
theorem AD5 (b : Nat) (code : List Int) (hcode : ByteL code) (c : TCur) (l : List Str) (hl : (∀ s ∈ l, s.length ≤ 64) ∧ 1 ≤ l.length ∧ l.length ≤ 1000) (hp : c.p ≤ 7000000) : GSpec Tryz.prog 151 [AV.ptr b 0, strs l] [.box b 127 (curC code c)] (fun x : TCur × Str => x.1.p ≤ c.p + 2 ∧ x.2.length ≤ 64) (fun x => [.box b 127 (curC code x.1)]) (fun x => AV.str x.2) := by
 obtain ⟨hls, hl1, hl2⟩ := hl
 refine H7 Tryz.func151 rfl Tryz.ntmps151 rfl ?_
 refine A3 (A2 ?_)
 refine A1 rfl rfl rfl (C0 rfl (P0 (l := []) rfl)) ?_
 refine A4 (A3 (A2 ?_))
 refine A5 rfl rfl rfl rfl rfl ?_
 refine A5 rfl rfl rfl rfl rfl ?_
 refine A5 rfl rfl rfl rfl rfl ?_
 refine A1 rfl rfl rfl (I5 rfl E3 (A0 rfl)) ?_
 refine I0 [0] rfl rfl rfl rfl Tryz.call100 rfl (S4 _ _ hcode _ _ (by simp only [A6]; omega) (by omega)) (A7 (A0 rfl) (A7 (A0 rfl) C9)) rfl ?_
 intro x9 ok9
 simp only [A6] at ok9
 obtain ⟨y, hy⟩ := get_some (show x9.2.toNat < l.length by omega)
 refine A1 rfl rfl rfl (K0 rfl E3 E8 (A0 rfl) (A0 rfl) hy (by omega)) ?_
 refine A1 rfl rfl rfl (O8 rfl (A0 rfl) H2 rfl) ?_
 refine B5 rfl rfl rfl rfl rfl ?_
 refine A4 ?_
 refine C7 ?_
 (refine J6 [0] ((_, _)) ?_ rfl (by first | (dsimp only; rfl) | rfl) (N2 rfl (C3 rfl (by rfl))); exact ⟨ok9.1, hls _ (G2 hy)⟩)
theorem AC1 (b : Nat) (code : List Int) (hcode : ByteL code) (c : TCur) (l : List Int) (hl : 1 ≤ l.length ∧ l.length ≤ 1000) (hp : c.p ≤ 7000000) : GSpec Tryz.prog 129 [AV.ptr b 0, ints l] [.box b 127 (curC code c)] (fun x : TCur × Int => x.1.p ≤ c.p + 2 ∧ x.2 ∈ l) (fun x => [.box b 127 (curC code x.1)]) (fun x => AV.int x.2) := by
 obtain ⟨hl1, hl2⟩ := hl
 refine H7 Tryz.func129 rfl Tryz.ntmps129 rfl ?_
 refine A3 (A2 ?_)
 refine A1 rfl rfl rfl (C0 rfl C2) ?_
 refine A4 (A3 (A2 ?_))
 refine A5 rfl rfl rfl rfl rfl ?_
 refine A5 rfl rfl rfl rfl rfl ?_
 refine A5 rfl rfl rfl rfl rfl ?_
 refine A1 rfl rfl rfl (I5 rfl S7 (A0 rfl)) ?_
 refine I0 [0] rfl rfl rfl rfl Tryz.call100 rfl (S4 _ _ hcode _ _ (by simp only [A6]; omega) (by omega)) (A7 (A0 rfl) (A7 (A0 rfl) C9)) rfl ?_
 intro x9 ok9
 simp only [A6] at ok9
 obtain ⟨y, hy⟩ := get_some (show x9.2.toNat < l.length by omega)
 refine A1 rfl rfl rfl (K0 rfl S7 C1 (A0 rfl) (A0 rfl) hy (by omega)) ?_
 refine A1 rfl rfl rfl (O8 rfl (A0 rfl) D1 rfl) ?_
 refine B5 rfl rfl rfl rfl rfl ?_
 refine A4 ?_
 refine C7 ?_
 (refine J6 [0] ((_, _)) ?_ rfl (by first | (dsimp only; rfl) | rfl) (N2 rfl (C3 rfl (by rfl))); exact ⟨ok9.1, G2 hy⟩)
theorem AW2 (b : Nat) (code : List Int) (hcode : ByteL code) (c : TCur) (hp : c.p ≤ 6000000) : GSpec Tryz.prog 116 [AV.ptr b 0] [.box b 127 (curC code c)] (fun x : TCur × Str => x.1.p ≤ c.p + 2 ∧ x.2.length ≤ 64) (fun x => [.box b 127 (curC code x.1)]) (fun x => AV.str x.2) := by
 refine H7 Tryz.func116 rfl Tryz.ntmps116 rfl ?_
 refine A3 (A2 ?_)
 refine A1 rfl rfl rfl (C0 rfl (P0 (l := []) rfl)) ?_
 refine A4 (A3 (A2 ?_))
 refine A5 rfl rfl rfl rfl rfl ?_
 refine A1 rfl rfl rfl (M8 rfl E3 E8 Tryz.zeroValue9 rfl rfl rfl rfl (D7 (P0 (l := [97]) rfl) (O0 _) (D7 (P0 (l := [98]) rfl) (O0 _) (D7 (P0 (l := [99]) rfl) (O0 _) (D7 (P0 (l := [109]) rfl) (O0 _) (D7 (P0 (l := [110]) rfl) (O0 _) (D7 (P0 (l := [122]) rfl) (O0 _) (D7 (P0 (l := [114, 47, 49]) rfl) (O0 _) (D7 (P0 (l := [105, 47, 120, 47, 49]) rfl) (O0 _) H6)))))))) rfl rfl) ?_
 refine I0 [0] rfl rfl rfl rfl Tryz.call151 rfl (AD5 _ _ hcode _ ([[97], [98], [99], [109], [110], [122], [114, 47, 49], [105, 47, 120, 47, 49]] : List Str) (by decide) (by omega)) (A7 (A0 rfl) (A7 (A0 rfl) C9)) rfl ?_
 intro x5 ok5
 refine B5 rfl rfl rfl rfl rfl ?_
 refine A4 ?_
 refine C7 ?_
 (refine J6 [0] ((_, _)) ?_ rfl (by first | (dsimp only; rfl) | rfl) (N2 rfl (C3 rfl (by rfl))); exact ok5)
end Go.Proofs.YtnlhbdkcgaeimaaGreat
