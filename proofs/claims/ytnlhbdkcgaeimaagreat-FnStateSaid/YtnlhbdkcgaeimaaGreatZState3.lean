/- Texts of the claim, part 3. -/
import Derived.Test.YtnlhbdkcgaeimaaGreatRows
import Derived.Test.YtnlhbdkcgaeimaaGreatZState2

set_option linter.unusedVariables false
set_option linter.unusedSimpArgs false
set_option maxRecDepth 100000
namespace Go.Proofs.YtnlhbdkcgaeimaaGreat
open Go Go.AV Go.M
attribute [local irreducible] OpW OpA OpS AWP FSpec ESpec RetOk RvDen Le Ev GuardIs
theorem AN5 (l : List TWrite) (pre : TWrite → Prop) (f : TWrite → Bool) (hp : ∀ x ∈ l, pre x) : FSpec Tryz.prog 245 [AV.list 3 (l.map TWrite.cs), AV.fun1 Tryz.prog pre (fun a => AV.agg a.cs) (fun a => AV.bool (f a))] (AV.int (idxFrom f l 0)) := by
 refine F3 Tryz.func245 rfl Tryz.ntmps245 rfl ?_
 refine Q8 (t := 0) rfl fun hl => ?_
 try simp only [A5] at hl
 refine A3 (A2 ?_)
 refine A1 rfl rfl rfl (C3 rfl C6) ?_
 refine A4 (A3 (A3 (A2 ?_)))
 refine A6 rfl rfl rfl rfl rfl ?_
 refine A1 rfl rfl rfl (G4 rfl G1 (A0 rfl)) ?_
 refine A1 rfl rfl rfl (C7 rfl C6) ?_
 refine A4 (E1 ?_)
 refine K1 [(0, _), (1, _), (7, _)] _ (fun (i : Nat) => i ≤ l.length ∧ idxFrom f l 0 = idxFrom f (l.drop i) i) (fun (i : Nat) => []) (fun (i : Nat) => [(8, AV.int i)]) (fun (i : Nat) => l.length - i) (0) ?_ (J9 ⟨rfl, rfl, rfl, rfl, trivial⟩) ?_
 ·exact ⟨Nat.zero_le _, rfl⟩
 intro i hinv
 refine A3 (A2 ?_)
 refine A1 rfl rfl rfl (M2 rfl (A0 rfl) (A0 rfl)) ?_
 refine A4 (A3 ?_)
 refine D0 (A0 rfl) ?_ ?_
 ·intro h9
  have k9 := of_decide_eq_true h9; try simp only [A5] at k9
  have hlt : i < l.length := by omega
  obtain ⟨x, hx⟩ := get_some hlt
  refine D5 (A3 (E1 (A3 (A2 ?_))))
  refine A6 rfl rfl rfl rfl rfl ?_
  refine C2 rfl rfl rfl rfl rfl ?_
  refine A4 (A3 (A2 ?_))
  refine A6 rfl rfl rfl rfl rfl ?_
  refine A6 rfl rfl rfl rfl rfl ?_
  refine A6 rfl rfl rfl rfl rfl ?_
  refine A1 rfl rfl rfl (J4 rfl G1 I6 (A0 rfl) (A0 rfl) hx (by first | omega | (simp only [A5, B1, B5, C1, B0, szR] at *; omega))) ?_
  refine A1 rfl rfl rfl (K7 rfl (A0 rfl) S2 I6) ?_
  refine A1 rfl rfl rfl (AV3 rfl (A0 rfl) x (hp x (H2 hx)) (A0 rfl)) ?_
  refine A4 ?_
  refine D0 (A0 rfl) ?_ ?_
  ·intro h16
   refine A3 (A2 ?_)
   refine A6 rfl rfl rfl rfl rfl ?_
   refine C2 rfl rfl rfl rfl rfl ?_
   refine A4 ?_
   refine C8 ?_
   exact I2 rfl (D1 rfl (by first | exact congrArg AV.int (by rw [hinv.2, drop_some hx, idxFrom, h16]; rfl) | exact congrArg AV.int (by rw [hinv.2, List.drop_eq_nil_of_le hge]; rfl)))
  ·intro h16
   refine D5 (A2 ?_)
   refine A1 rfl rfl rfl (H4 rfl (A0 rfl) C6 (by first | omega | (simp only [A5, B1, B5, C1, B0, szR] at *; omega))) ?_
   refine A6 rfl rfl rfl rfl rfl ?_
   refine A4 ?_
   refine M3 i (i + 1) ?_ ?_ (J9 ⟨rfl, rfl, rfl, rfl, trivial⟩)
   ·exact ⟨by omega, by rw [hinv.2, drop_some hx, idxFrom, h16]; simp⟩
   ·omega
 ·intro h9
  have k9 := of_decide_eq_false h9; try simp only [A5] at k9
  have hge : l.length ≤ i := by omega
  refine I4 ?_
  refine A3 (A2 ?_)
  refine A1 rfl rfl rfl (C3 rfl C6) ?_
  refine A4 ?_
  refine C8 ?_
  exact I2 rfl (D1 rfl (by first | exact congrArg AV.int (by rw [hinv.2, drop_some hx, idxFrom, h16]; rfl) | exact congrArg AV.int (by rw [hinv.2, List.drop_eq_nil_of_le hge]; rfl)))
theorem j3 (l : List TWrite) (pre : TWrite → Prop) (f : TWrite → Bool) (hp : ∀ x ∈ l, pre x) : FSpec Tryz.prog 186 [AV.list 3 (l.map TWrite.cs), AV.fun1 Tryz.prog pre (fun a => AV.agg a.cs) (fun a => AV.bool (f a))] (AV.bool (l.any f)) := by
 refine F3 Tryz.func186 rfl Tryz.ntmps186 rfl ?_
 refine A3 (A2 ?_)
 refine A1 rfl rfl rfl (C3 rfl F5) ?_
 refine A4 (A3 (A2 ?_))
 refine A6 rfl rfl rfl rfl rfl ?_
 refine A6 rfl rfl rfl rfl rfl ?_
 refine A1 rfl rfl rfl (F1 rfl Tryz.call245 rfl (AN5 _ _ _ (by first | (intros; trivial) | assumption | (intros; first | trivial | (simp_all; done)))) (A7 (A0 rfl) (A7 (A0 rfl) D2))) ?_
 refine A1 rfl rfl rfl (f5 rfl (A0 rfl) C6) ?_
 refine C2 rfl rfl rfl rfl rfl ?_
 refine A4 ?_
 refine C8 ?_
 exact I2 rfl (D1 rfl (by exact congrArg AV.bool (q6 f l 0 (Int.le_refl 0))))
theorem AT0 (l : List TRec) (pre : TRec → Prop) (f : TRec → Bool) (hp : ∀ x ∈ l, pre x) : FSpec Tryz.prog 176 [AV.list 7 (l.map TRec.cs), AV.fun1 Tryz.prog pre (fun a => AV.agg a.cs) (fun a => AV.bool (f a))] (AV.int (idxFrom f l 0)) := by
 refine F3 Tryz.func176 rfl Tryz.ntmps176 rfl ?_
 refine Q8 (t := 0) rfl fun hl => ?_
 try simp only [A5] at hl
 refine A3 (A2 ?_)
 refine A1 rfl rfl rfl (C3 rfl C6) ?_
 refine A4 (A3 (A3 (A2 ?_)))
 refine A6 rfl rfl rfl rfl rfl ?_
 refine A1 rfl rfl rfl (G4 rfl K2 (A0 rfl)) ?_
 refine A1 rfl rfl rfl (C7 rfl C6) ?_
 refine A4 (E1 ?_)
 refine K1 [(0, _), (1, _), (7, _)] _ (fun (i : Nat) => i ≤ l.length ∧ idxFrom f l 0 = idxFrom f (l.drop i) i) (fun (i : Nat) => []) (fun (i : Nat) => [(8, AV.int i)]) (fun (i : Nat) => l.length - i) (0) ?_ (J9 ⟨rfl, rfl, rfl, rfl, trivial⟩) ?_
 ·exact ⟨Nat.zero_le _, rfl⟩
 intro i hinv
 refine A3 (A2 ?_)
 refine A1 rfl rfl rfl (M2 rfl (A0 rfl) (A0 rfl)) ?_
 refine A4 (A3 ?_)
 refine D0 (A0 rfl) ?_ ?_
 ·intro h9
  have k9 := of_decide_eq_true h9; try simp only [A5] at k9
  have hlt : i < l.length := by omega
  obtain ⟨x, hx⟩ := get_some hlt
  refine D5 (A3 (E1 (A3 (A2 ?_))))
  refine A6 rfl rfl rfl rfl rfl ?_
  refine C2 rfl rfl rfl rfl rfl ?_
  refine A4 (A3 (A2 ?_))
  refine A6 rfl rfl rfl rfl rfl ?_
  refine A6 rfl rfl rfl rfl rfl ?_
  refine A6 rfl rfl rfl rfl rfl ?_
  refine A1 rfl rfl rfl (J4 rfl K2 E0 (A0 rfl) (A0 rfl) hx (by first | omega | (simp only [A5, B1, B5, C1, B0, szR] at *; omega))) ?_
  refine A1 rfl rfl rfl (K7 rfl (A0 rfl) G5 E0) ?_
  refine A1 rfl rfl rfl (AV3 rfl (A0 rfl) x (hp x (H2 hx)) (A0 rfl)) ?_
  refine A4 ?_
  refine D0 (A0 rfl) ?_ ?_
  ·intro h16
   refine A3 (A2 ?_)
   refine A6 rfl rfl rfl rfl rfl ?_
   refine C2 rfl rfl rfl rfl rfl ?_
   refine A4 ?_
   refine C8 ?_
   exact I2 rfl (D1 rfl (by first | exact congrArg AV.int (by rw [hinv.2, drop_some hx, idxFrom, h16]; rfl) | exact congrArg AV.int (by rw [hinv.2, List.drop_eq_nil_of_le hge]; rfl)))
  ·intro h16
   refine D5 (A2 ?_)
   refine A1 rfl rfl rfl (H4 rfl (A0 rfl) C6 (by first | omega | (simp only [A5, B1, B5, C1, B0, szR] at *; omega))) ?_
   refine A6 rfl rfl rfl rfl rfl ?_
   refine A4 ?_
   refine M3 i (i + 1) ?_ ?_ (J9 ⟨rfl, rfl, rfl, rfl, trivial⟩)
   ·exact ⟨by omega, by rw [hinv.2, drop_some hx, idxFrom, h16]; simp⟩
   ·omega
 ·intro h9
  have k9 := of_decide_eq_false h9; try simp only [A5] at k9
  have hge : l.length ≤ i := by omega
  refine I4 ?_
  refine A3 (A2 ?_)
  refine A1 rfl rfl rfl (C3 rfl C6) ?_
  refine A4 ?_
  refine C8 ?_
  exact I2 rfl (D1 rfl (by first | exact congrArg AV.int (by rw [hinv.2, drop_some hx, idxFrom, h16]; rfl) | exact congrArg AV.int (by rw [hinv.2, List.drop_eq_nil_of_le hge]; rfl)))
theorem AL6 (l : List TRec) (pre : TRec → Prop) (f : TRec → Bool) (hp : ∀ x ∈ l, pre x) : FSpec Tryz.prog 81 [AV.list 7 (l.map TRec.cs), AV.fun1 Tryz.prog pre (fun a => AV.agg a.cs) (fun a => AV.bool (f a))] (AV.bool (l.any f)) := by
 refine F3 Tryz.func81 rfl Tryz.ntmps81 rfl ?_
 refine A3 (A2 ?_)
 refine A1 rfl rfl rfl (C3 rfl F5) ?_
 refine A4 (A3 (A2 ?_))
 refine A6 rfl rfl rfl rfl rfl ?_
 refine A6 rfl rfl rfl rfl rfl ?_
 refine A1 rfl rfl rfl (F1 rfl Tryz.call176 rfl (AT0 _ _ _ (by first | (intros; trivial) | assumption | (intros; first | trivial | (simp_all; done)))) (A7 (A0 rfl) (A7 (A0 rfl) D2))) ?_
 refine A1 rfl rfl rfl (f5 rfl (A0 rfl) C6) ?_
 refine C2 rfl rfl rfl rfl rfl ?_
 refine A4 ?_
 refine C8 ?_
 exact I2 rfl (D1 rfl (by exact congrArg AV.bool (q6 f l 0 (Int.le_refl 0))))
theorem AP8 (l : List THeld) (pre : THeld → Prop) (f : THeld → Bool) (hp : ∀ x ∈ l, pre x) : FSpec Tryz.prog 243 [AV.list 5 (l.map THeld.cs), AV.fun1 Tryz.prog pre (fun a => AV.agg a.cs) (fun a => AV.bool (f a))] (AV.int (idxFrom f l 0)) := by
 refine F3 Tryz.func243 rfl Tryz.ntmps243 rfl ?_
 refine Q8 (t := 0) rfl fun hl => ?_
 try simp only [A5] at hl
 refine A3 (A2 ?_)
 refine A1 rfl rfl rfl (C3 rfl C6) ?_
 refine A4 (A3 (A3 (A2 ?_)))
 refine A6 rfl rfl rfl rfl rfl ?_
 refine A1 rfl rfl rfl (G4 rfl C9 (A0 rfl)) ?_
 refine A1 rfl rfl rfl (C7 rfl C6) ?_
 refine A4 (E1 ?_)
 refine K1 [(0, _), (1, _), (7, _)] _ (fun (i : Nat) => i ≤ l.length ∧ idxFrom f l 0 = idxFrom f (l.drop i) i) (fun (i : Nat) => []) (fun (i : Nat) => [(8, AV.int i)]) (fun (i : Nat) => l.length - i) (0) ?_ (J9 ⟨rfl, rfl, rfl, rfl, trivial⟩) ?_
 ·exact ⟨Nat.zero_le _, rfl⟩
 intro i hinv
 refine A3 (A2 ?_)
 refine A1 rfl rfl rfl (M2 rfl (A0 rfl) (A0 rfl)) ?_
 refine A4 (A3 ?_)
 refine D0 (A0 rfl) ?_ ?_
 ·intro h9
  have k9 := of_decide_eq_true h9; try simp only [A5] at k9
  have hlt : i < l.length := by omega
  obtain ⟨x, hx⟩ := get_some hlt
  refine D5 (A3 (E1 (A3 (A2 ?_))))
  refine A6 rfl rfl rfl rfl rfl ?_
  refine C2 rfl rfl rfl rfl rfl ?_
  refine A4 (A3 (A2 ?_))
  refine A6 rfl rfl rfl rfl rfl ?_
  refine A6 rfl rfl rfl rfl rfl ?_
  refine A6 rfl rfl rfl rfl rfl ?_
  refine A1 rfl rfl rfl (J4 rfl C9 D4 (A0 rfl) (A0 rfl) hx (by first | omega | (simp only [A5, B1, B5, C1, B0, szR] at *; omega))) ?_
  refine A1 rfl rfl rfl (K7 rfl (A0 rfl) I0 D4) ?_
  refine A1 rfl rfl rfl (AV3 rfl (A0 rfl) x (hp x (H2 hx)) (A0 rfl)) ?_
  refine A4 ?_
  refine D0 (A0 rfl) ?_ ?_
  ·intro h16
   refine A3 (A2 ?_)
   refine A6 rfl rfl rfl rfl rfl ?_
   refine C2 rfl rfl rfl rfl rfl ?_
   refine A4 ?_
   refine C8 ?_
   exact I2 rfl (D1 rfl (by first | exact congrArg AV.int (by rw [hinv.2, drop_some hx, idxFrom, h16]; rfl) | exact congrArg AV.int (by rw [hinv.2, List.drop_eq_nil_of_le hge]; rfl)))
  ·intro h16
   refine D5 (A2 ?_)
   refine A1 rfl rfl rfl (H4 rfl (A0 rfl) C6 (by first | omega | (simp only [A5, B1, B5, C1, B0, szR] at *; omega))) ?_
   refine A6 rfl rfl rfl rfl rfl ?_
   refine A4 ?_
   refine M3 i (i + 1) ?_ ?_ (J9 ⟨rfl, rfl, rfl, rfl, trivial⟩)
   ·exact ⟨by omega, by rw [hinv.2, drop_some hx, idxFrom, h16]; simp⟩
   ·omega
 ·intro h9
  have k9 := of_decide_eq_false h9; try simp only [A5] at k9
  have hge : l.length ≤ i := by omega
  refine I4 ?_
  refine A3 (A2 ?_)
  refine A1 rfl rfl rfl (C3 rfl C6) ?_
  refine A4 ?_
  refine C8 ?_
  exact I2 rfl (D1 rfl (by first | exact congrArg AV.int (by rw [hinv.2, drop_some hx, idxFrom, h16]; rfl) | exact congrArg AV.int (by rw [hinv.2, List.drop_eq_nil_of_le hge]; rfl)))
theorem s3 (l : List THeld) (pre : THeld → Prop) (f : THeld → Bool) (hp : ∀ x ∈ l, pre x) : FSpec Tryz.prog 183 [AV.list 5 (l.map THeld.cs), AV.fun1 Tryz.prog pre (fun a => AV.agg a.cs) (fun a => AV.bool (f a))] (AV.bool (l.any f)) := by
 refine F3 Tryz.func183 rfl Tryz.ntmps183 rfl ?_
 refine A3 (A2 ?_)
 refine A1 rfl rfl rfl (C3 rfl F5) ?_
 refine A4 (A3 (A2 ?_))
 refine A6 rfl rfl rfl rfl rfl ?_
 refine A6 rfl rfl rfl rfl rfl ?_
 refine A1 rfl rfl rfl (F1 rfl Tryz.call243 rfl (AP8 _ _ _ (by first | (intros; trivial) | assumption | (intros; first | trivial | (simp_all; done)))) (A7 (A0 rfl) (A7 (A0 rfl) D2))) ?_
 refine A1 rfl rfl rfl (f5 rfl (A0 rfl) C6) ?_
 refine C2 rfl rfl rfl rfl rfl ?_
 refine A4 ?_
 refine C8 ?_
 exact I2 rfl (D1 rfl (by exact congrArg AV.bool (q6 f l 0 (Int.le_refl 0))))
theorem AH4 (l : List TWrite) (v : Str) (pre : TWrite → Str → Prop) (hp : ∀ x ∈ l, pre x v) (f : TWrite → Str → Int) (hl2 : l.length ≤ 4611686018427387903) : FSpec Tryz.prog 267 [AV.list 3 (l.map TWrite.cs), AV.str v, AV.fun2 Tryz.prog pre (fun a => AV.agg a.cs) (fun b => AV.str b) (fun a b => AV.int (f a b))] (AV.tup [AV.int (bs (fun x => f x v) l 0 l.length), AV.bool (bsAt (fun x => f x v) l (bs (fun x => f x v) l 0 l.length))]) := by
 refine F3 Tryz.func267 rfl Tryz.ntmps267 rfl ?_
 refine Q8 (t := 0) rfl fun hl => ?_
 try simp only [A5] at hl
 refine A3 (A2 ?_)
 refine A1 rfl rfl rfl (C3 rfl C6) ?_
 refine A1 rfl rfl rfl (C3 rfl F5) ?_
 refine A4 (A3 (A2 ?_))
 refine A6 rfl rfl rfl rfl rfl ?_
 refine A1 rfl rfl rfl (G4 rfl G1 (A0 rfl)) ?_
 refine C2 rfl rfl rfl rfl rfl ?_
 refine A4 (A3 (A2 ?_))
 refine A6 rfl rfl rfl rfl rfl ?_
 refine A1 rfl rfl rfl (C3 rfl C6) ?_
 refine C2 rfl rfl rfl rfl rfl ?_
 refine A4 (A3 (E1 ?_))
 refine T8 [(0, _), (1, _), (2, _), (6, _), (7, _), (8, _)] _ (fun (i : Nat) (j : Nat) => i ≤ j ∧ j ≤ l.length ∧ bs (fun x => f x v) l 0 l.length = bs (fun x => f x v) l i j) (fun (i : Nat) (j : Nat) => []) (fun (i : Nat) (j : Nat) => [(9, AV.int i), (10, AV.int j)]) (fun (i : Nat) (j : Nat) => j - i) (0) ((l.map TWrite.cs).length) ?_ (J9 ⟨rfl, rfl, rfl, rfl, rfl, rfl, rfl, rfl, trivial⟩) ?_
 ·exact ⟨Nat.zero_le _, by simp, by simp⟩
 intro i j hinv
 refine A3 (A3 (A2 ?_))
 refine A6 rfl rfl rfl rfl rfl ?_
 refine A6 rfl rfl rfl rfl rfl ?_
 refine A1 rfl rfl rfl (M2 rfl (A0 rfl) (A0 rfl)) ?_
 refine A4 ?_
 refine D0 (A0 rfl) ?_ ?_
 ·intro h17
  have k17 := of_decide_eq_true h17; try simp only [A5] at k17
  have hlt : i < j := by omega
  obtain ⟨x, hx⟩ := get_some (show (i + j) / 2 < l.length by omega)
  refine D5 (E1 (A3 (A2 ?_)))
  refine A6 rfl rfl rfl rfl rfl ?_
  refine A6 rfl rfl rfl rfl rfl ?_
  refine A1 rfl rfl rfl (H4 rfl (A0 rfl) (A0 rfl) (by omega)) ?_
  refine A1 rfl rfl rfl (g7 rfl (by kernel_rfl) Tryz.underlying253 (A0 rfl)) ?_
  refine A1 rfl rfl rfl (AR5 rfl (A0 rfl) C6 (by decide) (by decide)) ?_
  refine A1 rfl rfl rfl (g7 rfl (by kernel_rfl) O3 (A0 rfl)) ?_
  refine C2 rfl rfl rfl rfl rfl ?_
  refine A4 (A3 (A2 ?_))
  rw [AS2 (by omega)]
  refine A6 rfl rfl rfl rfl rfl ?_
  refine A6 rfl rfl rfl rfl rfl ?_
  refine A6 rfl rfl rfl rfl rfl ?_
  refine A1 rfl rfl rfl (J4 rfl G1 I6 (A0 rfl) (A0 rfl) hx (by first | omega | (simp only [A5, B1, B5, C1, B0, szR] at *; omega))) ?_
  refine A1 rfl rfl rfl (K7 rfl (A0 rfl) S2 I6) ?_
  refine A6 rfl rfl rfl rfl rfl ?_
  refine A1 rfl rfl rfl (i3 rfl (A0 rfl) x v (hp x (H2 hx)) (A0 rfl) (A0 rfl)) ?_
  refine A1 rfl rfl rfl (M2 rfl (A0 rfl) C6) ?_
  refine A4 ?_
  refine D0 (A0 rfl) ?_ ?_
  ·intro h31
   have k31 := of_decide_eq_true h31; try simp only [A5] at k31
   refine A2 ?_
   refine A6 rfl rfl rfl rfl rfl ?_
   refine A1 rfl rfl rfl (H4 rfl (A0 rfl) C6 (by first | omega | (simp only [A5, B1, B5, C1, B0, szR] at *; omega))) ?_
   refine C2 rfl rfl rfl rfl rfl ?_
   refine A4 ?_
   refine m3 ?_
   refine S3 i j ((i + j) / 2 + 1) (j) ?_ ?_ (J9 ⟨rfl, rfl, rfl, rfl, rfl, rfl, rfl, rfl, trivial⟩)
   ·exact ⟨by omega, by omega, by rw [hinv.2.2, AS0 hlt hx k31]⟩
   ·omega
  ·intro h31
   have k31 := of_decide_eq_false h31; try simp only [A5] at k31
   refine A2 ?_
   refine A6 rfl rfl rfl rfl rfl ?_
   refine C2 rfl rfl rfl rfl rfl ?_
   refine A4 ?_
   refine m3 ?_
   refine S3 i j (i) ((i + j) / 2) ?_ ?_ (J9 ⟨rfl, rfl, rfl, rfl, rfl, rfl, rfl, rfl, trivial⟩)
   ·exact ⟨by omega, by omega, by rw [hinv.2.2, AS1 hlt hx k31]⟩
   ·omega
 ·intro h17
  have k17 := of_decide_eq_false h17; try simp only [A5] at k17
  have hge : bs (fun x => f x v) l 0 l.length = i := by rw [hinv.2.2, AI4 (by omega)]
  obtain ⟨y, hy⟩ := AD5 l i
  refine I4 ?_
  refine A3 (A2 ?_)
  refine A6 rfl rfl rfl rfl rfl ?_
  refine A6 rfl rfl rfl rfl rfl ?_
  refine A6 rfl rfl rfl rfl rfl ?_
  refine A1 rfl rfl rfl (M2 rfl (A0 rfl) (A0 rfl)) ?_
  refine A6 rfl rfl rfl rfl rfl ?_
  refine B7 rfl rfl (B9 rfl rfl rfl) (fun hc => C7 rfl (A0 rfl)) ?_
  refine B7 rfl rfl (B9 rfl rfl rfl) (fun hc => C7 rfl (A0 rfl)) ?_
  refine B7 rfl rfl (B9 rfl rfl rfl) (fun hc => C7 rfl (A0 rfl)) ?_
  refine B7 rfl rfl (B9 rfl rfl rfl) (fun hc => J4 rfl G1 I6 (A9 rfl hc) (A9 rfl hc) (hy (by first | omega | ((try simp only [A5, B1, B5, C1, B0, szR] at *); omega) | (have hc2 := hc; simp only [Bool.and_eq_true, Bool.or_eq_true, Bool.or_eq_false_iff, Bool.and_eq_false_iff, Bool.not_eq_true', Bool.not_eq_false', decide_eq_true_eq, decide_eq_false_iff_not, beq_iff_eq, bne_iff_ne, A5, B1] at hc2; omega))) rfl) ?_
  refine B7 rfl rfl (B9 rfl rfl rfl) (fun hc => K7 rfl (A9 rfl hc) S2 I6) ?_
  refine B7 rfl rfl (B9 rfl rfl rfl) (fun hc => C7 rfl (A0 rfl)) ?_
  refine B7 rfl rfl (B9 rfl rfl rfl) (fun hc => i3 rfl (A9 rfl hc) y v (hp y (H2 (hy (by first | omega | ((try simp only [A5, B1, B5, C1, B0, szR] at *); omega) | (have hc2 := hc; simp only [Bool.and_eq_true, Bool.or_eq_true, Bool.or_eq_false_iff, Bool.and_eq_false_iff, Bool.not_eq_true', Bool.not_eq_false', decide_eq_true_eq, decide_eq_false_iff_not, beq_iff_eq, bne_iff_ne, A5, B1] at hc2; omega))))) (A9 rfl hc) (A9 rfl hc)) ?_
  refine B7 rfl rfl (B9 rfl rfl rfl) (fun hc => N3 rfl (A9 rfl hc) C6) ?_
  refine A1 rfl rfl rfl (H8 rfl (A0 rfl) (G2 rfl)) ?_
  refine C2 rfl rfl rfl rfl rfl ?_
  refine C2 rfl rfl rfl rfl rfl ?_
  refine A4 ?_
  refine C8 ?_
  exact W7 rfl (by decide) (E4 (D1 rfl (by first | exact congrArg AV.int (by rw [hge]) | exact congrArg AV.bool (by rw [hge]; unfold bsAt; simp only [A5]; cases Nat.lt_or_ge i l.length with | inl hi => (rw [hy hi]; simp [hi]) | inr hi => (rw [List.getElem?_eq_none (by omega)]; simp only [decide_eq_false (show ¬ ((i : Int) < (l.length : Int)) by omega), Bool.false_and])))) (E4 (D1 rfl (by first | exact congrArg AV.int (by rw [hge]) | exact congrArg AV.bool (by rw [hge]; unfold bsAt; simp only [A5]; cases Nat.lt_or_ge i l.length with | inl hi => (rw [hy hi]; simp [hi]) | inr hi => (rw [List.getElem?_eq_none (by omega)]; simp only [decide_eq_false (show ¬ ((i : Int) < (l.length : Int)) by omega), Bool.false_and])))) J6))
theorem AI7 (l : List TCell) (v : Str) (pre : TCell → Str → Prop) (hp : ∀ x ∈ l, pre x v) (f : TCell → Str → Int) (hl2 : l.length ≤ 4611686018427387903) : FSpec Tryz.prog 248 [AV.list 2 (l.map TCell.cs), AV.str v, AV.fun2 Tryz.prog pre (fun a => AV.agg a.cs) (fun b => AV.str b) (fun a b => AV.int (f a b))] (AV.tup [AV.int (bs (fun x => f x v) l 0 l.length), AV.bool (bsAt (fun x => f x v) l (bs (fun x => f x v) l 0 l.length))]) := by
 refine F3 Tryz.func248 rfl Tryz.ntmps248 rfl ?_
 refine Q8 (t := 0) rfl fun hl => ?_
 try simp only [A5] at hl
 refine A3 (A2 ?_)
 refine A1 rfl rfl rfl (C3 rfl C6) ?_
 refine A1 rfl rfl rfl (C3 rfl F5) ?_
 refine A4 (A3 (A2 ?_))
 refine A6 rfl rfl rfl rfl rfl ?_
 refine A1 rfl rfl rfl (G4 rfl E2 (A0 rfl)) ?_
 refine C2 rfl rfl rfl rfl rfl ?_
 refine A4 (A3 (A2 ?_))
 refine A6 rfl rfl rfl rfl rfl ?_
 refine A1 rfl rfl rfl (C3 rfl C6) ?_
 refine C2 rfl rfl rfl rfl rfl ?_
 refine A4 (A3 (E1 ?_))
 refine T8 [(0, _), (1, _), (2, _), (6, _), (7, _), (8, _)] _ (fun (i : Nat) (j : Nat) => i ≤ j ∧ j ≤ l.length ∧ bs (fun x => f x v) l 0 l.length = bs (fun x => f x v) l i j) (fun (i : Nat) (j : Nat) => []) (fun (i : Nat) (j : Nat) => [(9, AV.int i), (10, AV.int j)]) (fun (i : Nat) (j : Nat) => j - i) (0) ((l.map TCell.cs).length) ?_ (J9 ⟨rfl, rfl, rfl, rfl, rfl, rfl, rfl, rfl, trivial⟩) ?_
 ·exact ⟨Nat.zero_le _, by simp, by simp⟩
 intro i j hinv
 refine A3 (A3 (A2 ?_))
 refine A6 rfl rfl rfl rfl rfl ?_
 refine A6 rfl rfl rfl rfl rfl ?_
 refine A1 rfl rfl rfl (M2 rfl (A0 rfl) (A0 rfl)) ?_
 refine A4 ?_
 refine D0 (A0 rfl) ?_ ?_
 ·intro h17
  have k17 := of_decide_eq_true h17; try simp only [A5] at k17
  have hlt : i < j := by omega
  obtain ⟨x, hx⟩ := get_some (show (i + j) / 2 < l.length by omega)
  refine D5 (E1 (A3 (A2 ?_)))
  refine A6 rfl rfl rfl rfl rfl ?_
  refine A6 rfl rfl rfl rfl rfl ?_
  refine A1 rfl rfl rfl (H4 rfl (A0 rfl) (A0 rfl) (by omega)) ?_
  refine A1 rfl rfl rfl (g7 rfl (by kernel_rfl) Tryz.underlying253 (A0 rfl)) ?_
  refine A1 rfl rfl rfl (AR5 rfl (A0 rfl) C6 (by decide) (by decide)) ?_
  refine A1 rfl rfl rfl (g7 rfl (by kernel_rfl) O3 (A0 rfl)) ?_
  refine C2 rfl rfl rfl rfl rfl ?_
  refine A4 (A3 (A2 ?_))
  rw [AS2 (by omega)]
  refine A6 rfl rfl rfl rfl rfl ?_
  refine A6 rfl rfl rfl rfl rfl ?_
  refine A6 rfl rfl rfl rfl rfl ?_
  refine A1 rfl rfl rfl (J4 rfl E2 F7 (A0 rfl) (A0 rfl) hx (by first | omega | (simp only [A5, B1, B5, C1, B0, szR] at *; omega))) ?_
  refine A1 rfl rfl rfl (K7 rfl (A0 rfl) S7 F7) ?_
  refine A6 rfl rfl rfl rfl rfl ?_
  refine A1 rfl rfl rfl (i3 rfl (A0 rfl) x v (hp x (H2 hx)) (A0 rfl) (A0 rfl)) ?_
  refine A1 rfl rfl rfl (M2 rfl (A0 rfl) C6) ?_
  refine A4 ?_
  refine D0 (A0 rfl) ?_ ?_
  ·intro h31
   have k31 := of_decide_eq_true h31; try simp only [A5] at k31
   refine A2 ?_
   refine A6 rfl rfl rfl rfl rfl ?_
   refine A1 rfl rfl rfl (H4 rfl (A0 rfl) C6 (by first | omega | (simp only [A5, B1, B5, C1, B0, szR] at *; omega))) ?_
   refine C2 rfl rfl rfl rfl rfl ?_
   refine A4 ?_
   refine m3 ?_
   refine S3 i j ((i + j) / 2 + 1) (j) ?_ ?_ (J9 ⟨rfl, rfl, rfl, rfl, rfl, rfl, rfl, rfl, trivial⟩)
   ·exact ⟨by omega, by omega, by rw [hinv.2.2, AS0 hlt hx k31]⟩
   ·omega
  ·intro h31
   have k31 := of_decide_eq_false h31; try simp only [A5] at k31
   refine A2 ?_
   refine A6 rfl rfl rfl rfl rfl ?_
   refine C2 rfl rfl rfl rfl rfl ?_
   refine A4 ?_
   refine m3 ?_
   refine S3 i j (i) ((i + j) / 2) ?_ ?_ (J9 ⟨rfl, rfl, rfl, rfl, rfl, rfl, rfl, rfl, trivial⟩)
   ·exact ⟨by omega, by omega, by rw [hinv.2.2, AS1 hlt hx k31]⟩
   ·omega
 ·intro h17
  have k17 := of_decide_eq_false h17; try simp only [A5] at k17
  have hge : bs (fun x => f x v) l 0 l.length = i := by rw [hinv.2.2, AI4 (by omega)]
  obtain ⟨y, hy⟩ := AD5 l i
  refine I4 ?_
  refine A3 (A2 ?_)
  refine A6 rfl rfl rfl rfl rfl ?_
  refine A6 rfl rfl rfl rfl rfl ?_
  refine A6 rfl rfl rfl rfl rfl ?_
  refine A1 rfl rfl rfl (M2 rfl (A0 rfl) (A0 rfl)) ?_
  refine A6 rfl rfl rfl rfl rfl ?_
  refine B7 rfl rfl (B9 rfl rfl rfl) (fun hc => C7 rfl (A0 rfl)) ?_
  refine B7 rfl rfl (B9 rfl rfl rfl) (fun hc => C7 rfl (A0 rfl)) ?_
  refine B7 rfl rfl (B9 rfl rfl rfl) (fun hc => C7 rfl (A0 rfl)) ?_
  refine B7 rfl rfl (B9 rfl rfl rfl) (fun hc => J4 rfl E2 F7 (A9 rfl hc) (A9 rfl hc) (hy (by first | omega | ((try simp only [A5, B1, B5, C1, B0, szR] at *); omega) | (have hc2 := hc; simp only [Bool.and_eq_true, Bool.or_eq_true, Bool.or_eq_false_iff, Bool.and_eq_false_iff, Bool.not_eq_true', Bool.not_eq_false', decide_eq_true_eq, decide_eq_false_iff_not, beq_iff_eq, bne_iff_ne, A5, B1] at hc2; omega))) rfl) ?_
  refine B7 rfl rfl (B9 rfl rfl rfl) (fun hc => K7 rfl (A9 rfl hc) S7 F7) ?_
  refine B7 rfl rfl (B9 rfl rfl rfl) (fun hc => C7 rfl (A0 rfl)) ?_
  refine B7 rfl rfl (B9 rfl rfl rfl) (fun hc => i3 rfl (A9 rfl hc) y v (hp y (H2 (hy (by first | omega | ((try simp only [A5, B1, B5, C1, B0, szR] at *); omega) | (have hc2 := hc; simp only [Bool.and_eq_true, Bool.or_eq_true, Bool.or_eq_false_iff, Bool.and_eq_false_iff, Bool.not_eq_true', Bool.not_eq_false', decide_eq_true_eq, decide_eq_false_iff_not, beq_iff_eq, bne_iff_ne, A5, B1] at hc2; omega))))) (A9 rfl hc) (A9 rfl hc)) ?_
  refine B7 rfl rfl (B9 rfl rfl rfl) (fun hc => N3 rfl (A9 rfl hc) C6) ?_
  refine A1 rfl rfl rfl (H8 rfl (A0 rfl) (G2 rfl)) ?_
  refine C2 rfl rfl rfl rfl rfl ?_
  refine C2 rfl rfl rfl rfl rfl ?_
  refine A4 ?_
  refine C8 ?_
  exact W7 rfl (by decide) (E4 (D1 rfl (by first | exact congrArg AV.int (by rw [hge]) | exact congrArg AV.bool (by rw [hge]; unfold bsAt; simp only [A5]; cases Nat.lt_or_ge i l.length with | inl hi => (rw [hy hi]; simp [hi]) | inr hi => (rw [List.getElem?_eq_none (by omega)]; simp only [decide_eq_false (show ¬ ((i : Int) < (l.length : Int)) by omega), Bool.false_and])))) (E4 (D1 rfl (by first | exact congrArg AV.int (by rw [hge]) | exact congrArg AV.bool (by rw [hge]; unfold bsAt; simp only [A5]; cases Nat.lt_or_ge i l.length with | inl hi => (rw [hy hi]; simp [hi]) | inr hi => (rw [List.getElem?_eq_none (by omega)]; simp only [decide_eq_false (show ¬ ((i : Int) < (l.length : Int)) by omega), Bool.false_and])))) J6))
theorem AI8 (l : List THeld) (v : Int) (pre : THeld → Int → Prop) (hp : ∀ x ∈ l, pre x v) (f : THeld → Int → Int) (hl2 : l.length ≤ 4611686018427387903) : FSpec Tryz.prog 190 [AV.list 5 (l.map THeld.cs), AV.int v, AV.fun2 Tryz.prog pre (fun a => AV.agg a.cs) (fun b => AV.int b) (fun a b => AV.int (f a b))] (AV.tup [AV.int (bs (fun x => f x v) l 0 l.length), AV.bool (bsAt (fun x => f x v) l (bs (fun x => f x v) l 0 l.length))]) := by
 refine F3 Tryz.func190 rfl Tryz.ntmps190 rfl ?_
 refine Q8 (t := 0) rfl fun hl => ?_
 try simp only [A5] at hl
 refine A3 (A2 ?_)
 refine A1 rfl rfl rfl (C3 rfl C6) ?_
 refine A1 rfl rfl rfl (C3 rfl F5) ?_
 refine A4 (A3 (A2 ?_))
 refine A6 rfl rfl rfl rfl rfl ?_
 refine A1 rfl rfl rfl (G4 rfl C9 (A0 rfl)) ?_
 refine C2 rfl rfl rfl rfl rfl ?_
 refine A4 (A3 (A2 ?_))
 refine A6 rfl rfl rfl rfl rfl ?_
 refine A1 rfl rfl rfl (C3 rfl C6) ?_
 refine C2 rfl rfl rfl rfl rfl ?_
 refine A4 (A3 (E1 ?_))
 refine T8 [(0, _), (1, _), (2, _), (6, _), (7, _), (8, _)] _ (fun (i : Nat) (j : Nat) => i ≤ j ∧ j ≤ l.length ∧ bs (fun x => f x v) l 0 l.length = bs (fun x => f x v) l i j) (fun (i : Nat) (j : Nat) => []) (fun (i : Nat) (j : Nat) => [(9, AV.int i), (10, AV.int j)]) (fun (i : Nat) (j : Nat) => j - i) (0) ((l.map THeld.cs).length) ?_ (J9 ⟨rfl, rfl, rfl, rfl, rfl, rfl, rfl, rfl, trivial⟩) ?_
 ·exact ⟨Nat.zero_le _, by simp, by simp⟩
 intro i j hinv
 refine A3 (A3 (A2 ?_))
 refine A6 rfl rfl rfl rfl rfl ?_
 refine A6 rfl rfl rfl rfl rfl ?_
 refine A1 rfl rfl rfl (M2 rfl (A0 rfl) (A0 rfl)) ?_
 refine A4 ?_
 refine D0 (A0 rfl) ?_ ?_
 ·intro h17
  have k17 := of_decide_eq_true h17; try simp only [A5] at k17
  have hlt : i < j := by omega
  obtain ⟨x, hx⟩ := get_some (show (i + j) / 2 < l.length by omega)
  refine D5 (E1 (A3 (A2 ?_)))
  refine A6 rfl rfl rfl rfl rfl ?_
  refine A6 rfl rfl rfl rfl rfl ?_
  refine A1 rfl rfl rfl (H4 rfl (A0 rfl) (A0 rfl) (by omega)) ?_
  refine A1 rfl rfl rfl (g7 rfl (by kernel_rfl) Tryz.underlying253 (A0 rfl)) ?_
  refine A1 rfl rfl rfl (AR5 rfl (A0 rfl) C6 (by decide) (by decide)) ?_
  refine A1 rfl rfl rfl (g7 rfl (by kernel_rfl) O3 (A0 rfl)) ?_
  refine C2 rfl rfl rfl rfl rfl ?_
  refine A4 (A3 (A2 ?_))
  rw [AS2 (by omega)]
  refine A6 rfl rfl rfl rfl rfl ?_
  refine A6 rfl rfl rfl rfl rfl ?_
  refine A6 rfl rfl rfl rfl rfl ?_
  refine A1 rfl rfl rfl (J4 rfl C9 D4 (A0 rfl) (A0 rfl) hx (by first | omega | (simp only [A5, B1, B5, C1, B0, szR] at *; omega))) ?_
  refine A1 rfl rfl rfl (K7 rfl (A0 rfl) I0 D4) ?_
  refine A6 rfl rfl rfl rfl rfl ?_
  refine A1 rfl rfl rfl (i3 rfl (A0 rfl) x v (hp x (H2 hx)) (A0 rfl) (A0 rfl)) ?_
  refine A1 rfl rfl rfl (M2 rfl (A0 rfl) C6) ?_
  refine A4 ?_
  refine D0 (A0 rfl) ?_ ?_
  ·intro h31
   have k31 := of_decide_eq_true h31; try simp only [A5] at k31
   refine A2 ?_
   refine A6 rfl rfl rfl rfl rfl ?_
   refine A1 rfl rfl rfl (H4 rfl (A0 rfl) C6 (by first | omega | (simp only [A5, B1, B5, C1, B0, szR] at *; omega))) ?_
   refine C2 rfl rfl rfl rfl rfl ?_
   refine A4 ?_
   refine m3 ?_
   refine S3 i j ((i + j) / 2 + 1) (j) ?_ ?_ (J9 ⟨rfl, rfl, rfl, rfl, rfl, rfl, rfl, rfl, trivial⟩)
   ·exact ⟨by omega, by omega, by rw [hinv.2.2, AS0 hlt hx k31]⟩
   ·omega
  ·intro h31
   have k31 := of_decide_eq_false h31; try simp only [A5] at k31
   refine A2 ?_
   refine A6 rfl rfl rfl rfl rfl ?_
   refine C2 rfl rfl rfl rfl rfl ?_
   refine A4 ?_
   refine m3 ?_
   refine S3 i j (i) ((i + j) / 2) ?_ ?_ (J9 ⟨rfl, rfl, rfl, rfl, rfl, rfl, rfl, rfl, trivial⟩)
   ·exact ⟨by omega, by omega, by rw [hinv.2.2, AS1 hlt hx k31]⟩
   ·omega
 ·intro h17
  have k17 := of_decide_eq_false h17; try simp only [A5] at k17
  have hge : bs (fun x => f x v) l 0 l.length = i := by rw [hinv.2.2, AI4 (by omega)]
  obtain ⟨y, hy⟩ := AD5 l i
  refine I4 ?_
  refine A3 (A2 ?_)
  refine A6 rfl rfl rfl rfl rfl ?_
  refine A6 rfl rfl rfl rfl rfl ?_
  refine A6 rfl rfl rfl rfl rfl ?_
  refine A1 rfl rfl rfl (M2 rfl (A0 rfl) (A0 rfl)) ?_
  refine A6 rfl rfl rfl rfl rfl ?_
  refine B7 rfl rfl (B9 rfl rfl rfl) (fun hc => C7 rfl (A0 rfl)) ?_
  refine B7 rfl rfl (B9 rfl rfl rfl) (fun hc => C7 rfl (A0 rfl)) ?_
  refine B7 rfl rfl (B9 rfl rfl rfl) (fun hc => C7 rfl (A0 rfl)) ?_
  refine B7 rfl rfl (B9 rfl rfl rfl) (fun hc => J4 rfl C9 D4 (A9 rfl hc) (A9 rfl hc) (hy (by first | omega | ((try simp only [A5, B1, B5, C1, B0, szR] at *); omega) | (have hc2 := hc; simp only [Bool.and_eq_true, Bool.or_eq_true, Bool.or_eq_false_iff, Bool.and_eq_false_iff, Bool.not_eq_true', Bool.not_eq_false', decide_eq_true_eq, decide_eq_false_iff_not, beq_iff_eq, bne_iff_ne, A5, B1] at hc2; omega))) rfl) ?_
  refine B7 rfl rfl (B9 rfl rfl rfl) (fun hc => K7 rfl (A9 rfl hc) I0 D4) ?_
  refine B7 rfl rfl (B9 rfl rfl rfl) (fun hc => C7 rfl (A0 rfl)) ?_
  refine B7 rfl rfl (B9 rfl rfl rfl) (fun hc => i3 rfl (A9 rfl hc) y v (hp y (H2 (hy (by first | omega | ((try simp only [A5, B1, B5, C1, B0, szR] at *); omega) | (have hc2 := hc; simp only [Bool.and_eq_true, Bool.or_eq_true, Bool.or_eq_false_iff, Bool.and_eq_false_iff, Bool.not_eq_true', Bool.not_eq_false', decide_eq_true_eq, decide_eq_false_iff_not, beq_iff_eq, bne_iff_ne, A5, B1] at hc2; omega))))) (A9 rfl hc) (A9 rfl hc)) ?_
  refine B7 rfl rfl (B9 rfl rfl rfl) (fun hc => N3 rfl (A9 rfl hc) C6) ?_
  refine A1 rfl rfl rfl (H8 rfl (A0 rfl) (G2 rfl)) ?_
  refine C2 rfl rfl rfl rfl rfl ?_
  refine C2 rfl rfl rfl rfl rfl ?_
  refine A4 ?_
  refine C8 ?_
  exact W7 rfl (by decide) (E4 (D1 rfl (by first | exact congrArg AV.int (by rw [hge]) | exact congrArg AV.bool (by rw [hge]; unfold bsAt; simp only [A5]; cases Nat.lt_or_ge i l.length with | inl hi => (rw [hy hi]; simp [hi]) | inr hi => (rw [List.getElem?_eq_none (by omega)]; simp only [decide_eq_false (show ¬ ((i : Int) < (l.length : Int)) by omega), Bool.false_and])))) (E4 (D1 rfl (by first | exact congrArg AV.int (by rw [hge]) | exact congrArg AV.bool (by rw [hge]; unfold bsAt; simp only [A5]; cases Nat.lt_or_ge i l.length with | inl hi => (rw [hy hi]; simp [hi]) | inr hi => (rw [List.getElem?_eq_none (by omega)]; simp only [decide_eq_false (show ¬ ((i : Int) < (l.length : Int)) by omega), Bool.false_and])))) J6))
theorem AI9 (l : List TTold) (v : Int) (pre : TTold → Int → Prop) (hp : ∀ x ∈ l, pre x v) (f : TTold → Int → Int) (hl2 : l.length ≤ 4611686018427387903) : FSpec Tryz.prog 193 [AV.list 3 (l.map TTold.cs), AV.int v, AV.fun2 Tryz.prog pre (fun a => AV.agg a.cs) (fun b => AV.int b) (fun a b => AV.int (f a b))] (AV.tup [AV.int (bs (fun x => f x v) l 0 l.length), AV.bool (bsAt (fun x => f x v) l (bs (fun x => f x v) l 0 l.length))]) := by
 refine F3 Tryz.func193 rfl Tryz.ntmps193 rfl ?_
 refine Q8 (t := 0) rfl fun hl => ?_
 try simp only [A5] at hl
 refine A3 (A2 ?_)
 refine A1 rfl rfl rfl (C3 rfl C6) ?_
 refine A1 rfl rfl rfl (C3 rfl F5) ?_
 refine A4 (A3 (A2 ?_))
 refine A6 rfl rfl rfl rfl rfl ?_
 refine A1 rfl rfl rfl (G4 rfl E5 (A0 rfl)) ?_
 refine C2 rfl rfl rfl rfl rfl ?_
 refine A4 (A3 (A2 ?_))
 refine A6 rfl rfl rfl rfl rfl ?_
 refine A1 rfl rfl rfl (C3 rfl C6) ?_
 refine C2 rfl rfl rfl rfl rfl ?_
 refine A4 (A3 (E1 ?_))
 refine T8 [(0, _), (1, _), (2, _), (6, _), (7, _), (8, _)] _ (fun (i : Nat) (j : Nat) => i ≤ j ∧ j ≤ l.length ∧ bs (fun x => f x v) l 0 l.length = bs (fun x => f x v) l i j) (fun (i : Nat) (j : Nat) => []) (fun (i : Nat) (j : Nat) => [(9, AV.int i), (10, AV.int j)]) (fun (i : Nat) (j : Nat) => j - i) (0) ((l.map TTold.cs).length) ?_ (J9 ⟨rfl, rfl, rfl, rfl, rfl, rfl, rfl, rfl, trivial⟩) ?_
 ·exact ⟨Nat.zero_le _, by simp, by simp⟩
 intro i j hinv
 refine A3 (A3 (A2 ?_))
 refine A6 rfl rfl rfl rfl rfl ?_
 refine A6 rfl rfl rfl rfl rfl ?_
 refine A1 rfl rfl rfl (M2 rfl (A0 rfl) (A0 rfl)) ?_
 refine A4 ?_
 refine D0 (A0 rfl) ?_ ?_
 ·intro h17
  have k17 := of_decide_eq_true h17; try simp only [A5] at k17
  have hlt : i < j := by omega
  obtain ⟨x, hx⟩ := get_some (show (i + j) / 2 < l.length by omega)
  refine D5 (E1 (A3 (A2 ?_)))
  refine A6 rfl rfl rfl rfl rfl ?_
  refine A6 rfl rfl rfl rfl rfl ?_
  refine A1 rfl rfl rfl (H4 rfl (A0 rfl) (A0 rfl) (by omega)) ?_
  refine A1 rfl rfl rfl (g7 rfl (by kernel_rfl) Tryz.underlying253 (A0 rfl)) ?_
  refine A1 rfl rfl rfl (AR5 rfl (A0 rfl) C6 (by decide) (by decide)) ?_
  refine A1 rfl rfl rfl (g7 rfl (by kernel_rfl) O3 (A0 rfl)) ?_
  refine C2 rfl rfl rfl rfl rfl ?_
  refine A4 (A3 (A2 ?_))
  rw [AS2 (by omega)]
  refine A6 rfl rfl rfl rfl rfl ?_
  refine A6 rfl rfl rfl rfl rfl ?_
  refine A6 rfl rfl rfl rfl rfl ?_
  refine A1 rfl rfl rfl (J4 rfl E5 F9 (A0 rfl) (A0 rfl) hx (by first | omega | (simp only [A5, B1, B5, C1, B0, szR] at *; omega))) ?_
  refine A1 rfl rfl rfl (K7 rfl (A0 rfl) P7 F9) ?_
  refine A6 rfl rfl rfl rfl rfl ?_
  refine A1 rfl rfl rfl (i3 rfl (A0 rfl) x v (hp x (H2 hx)) (A0 rfl) (A0 rfl)) ?_
  refine A1 rfl rfl rfl (M2 rfl (A0 rfl) C6) ?_
  refine A4 ?_
  refine D0 (A0 rfl) ?_ ?_
  ·intro h31
   have k31 := of_decide_eq_true h31; try simp only [A5] at k31
   refine A2 ?_
   refine A6 rfl rfl rfl rfl rfl ?_
   refine A1 rfl rfl rfl (H4 rfl (A0 rfl) C6 (by first | omega | (simp only [A5, B1, B5, C1, B0, szR] at *; omega))) ?_
   refine C2 rfl rfl rfl rfl rfl ?_
   refine A4 ?_
   refine m3 ?_
   refine S3 i j ((i + j) / 2 + 1) (j) ?_ ?_ (J9 ⟨rfl, rfl, rfl, rfl, rfl, rfl, rfl, rfl, trivial⟩)
   ·exact ⟨by omega, by omega, by rw [hinv.2.2, AS0 hlt hx k31]⟩
   ·omega
  ·intro h31
   have k31 := of_decide_eq_false h31; try simp only [A5] at k31
   refine A2 ?_
   refine A6 rfl rfl rfl rfl rfl ?_
   refine C2 rfl rfl rfl rfl rfl ?_
   refine A4 ?_
   refine m3 ?_
   refine S3 i j (i) ((i + j) / 2) ?_ ?_ (J9 ⟨rfl, rfl, rfl, rfl, rfl, rfl, rfl, rfl, trivial⟩)
   ·exact ⟨by omega, by omega, by rw [hinv.2.2, AS1 hlt hx k31]⟩
   ·omega
 ·intro h17
  have k17 := of_decide_eq_false h17; try simp only [A5] at k17
  have hge : bs (fun x => f x v) l 0 l.length = i := by rw [hinv.2.2, AI4 (by omega)]
  obtain ⟨y, hy⟩ := AD5 l i
  refine I4 ?_
  refine A3 (A2 ?_)
  refine A6 rfl rfl rfl rfl rfl ?_
  refine A6 rfl rfl rfl rfl rfl ?_
  refine A6 rfl rfl rfl rfl rfl ?_
  refine A1 rfl rfl rfl (M2 rfl (A0 rfl) (A0 rfl)) ?_
  refine A6 rfl rfl rfl rfl rfl ?_
  refine B7 rfl rfl (B9 rfl rfl rfl) (fun hc => C7 rfl (A0 rfl)) ?_
  refine B7 rfl rfl (B9 rfl rfl rfl) (fun hc => C7 rfl (A0 rfl)) ?_
  refine B7 rfl rfl (B9 rfl rfl rfl) (fun hc => C7 rfl (A0 rfl)) ?_
  refine B7 rfl rfl (B9 rfl rfl rfl) (fun hc => J4 rfl E5 F9 (A9 rfl hc) (A9 rfl hc) (hy (by first | omega | ((try simp only [A5, B1, B5, C1, B0, szR] at *); omega) | (have hc2 := hc; simp only [Bool.and_eq_true, Bool.or_eq_true, Bool.or_eq_false_iff, Bool.and_eq_false_iff, Bool.not_eq_true', Bool.not_eq_false', decide_eq_true_eq, decide_eq_false_iff_not, beq_iff_eq, bne_iff_ne, A5, B1] at hc2; omega))) rfl) ?_
  refine B7 rfl rfl (B9 rfl rfl rfl) (fun hc => K7 rfl (A9 rfl hc) P7 F9) ?_
  refine B7 rfl rfl (B9 rfl rfl rfl) (fun hc => C7 rfl (A0 rfl)) ?_
  refine B7 rfl rfl (B9 rfl rfl rfl) (fun hc => i3 rfl (A9 rfl hc) y v (hp y (H2 (hy (by first | omega | ((try simp only [A5, B1, B5, C1, B0, szR] at *); omega) | (have hc2 := hc; simp only [Bool.and_eq_true, Bool.or_eq_true, Bool.or_eq_false_iff, Bool.and_eq_false_iff, Bool.not_eq_true', Bool.not_eq_false', decide_eq_true_eq, decide_eq_false_iff_not, beq_iff_eq, bne_iff_ne, A5, B1] at hc2; omega))))) (A9 rfl hc) (A9 rfl hc)) ?_
  refine B7 rfl rfl (B9 rfl rfl rfl) (fun hc => N3 rfl (A9 rfl hc) C6) ?_
  refine A1 rfl rfl rfl (H8 rfl (A0 rfl) (G2 rfl)) ?_
  refine C2 rfl rfl rfl rfl rfl ?_
  refine C2 rfl rfl rfl rfl rfl ?_
  refine A4 ?_
  refine C8 ?_
  exact W7 rfl (by decide) (E4 (D1 rfl (by first | exact congrArg AV.int (by rw [hge]) | exact congrArg AV.bool (by rw [hge]; unfold bsAt; simp only [A5]; cases Nat.lt_or_ge i l.length with | inl hi => (rw [hy hi]; simp [hi]) | inr hi => (rw [List.getElem?_eq_none (by omega)]; simp only [decide_eq_false (show ¬ ((i : Int) < (l.length : Int)) by omega), Bool.false_and])))) (E4 (D1 rfl (by first | exact congrArg AV.int (by rw [hge]) | exact congrArg AV.bool (by rw [hge]; unfold bsAt; simp only [A5]; cases Nat.lt_or_ge i l.length with | inl hi => (rw [hy hi]; simp [hi]) | inr hi => (rw [List.getElem?_eq_none (by omega)]; simp only [decide_eq_false (show ¬ ((i : Int) < (l.length : Int)) by omega), Bool.false_and])))) J6))
theorem AW4 (l : List Str) (v : Str) : FSpec Tryz.prog 296 [strs l, AV.str v] (AV.int (idxFrom (fun x => v == x) l 0)) := by
 refine F3 Tryz.func296 rfl Tryz.ntmps296 rfl ?_
 refine Q8 (t := 0) rfl fun hl => ?_
 try simp only [A5] at hl
 refine A3 (A2 ?_)
 refine A1 rfl rfl rfl (C3 rfl C6) ?_
 refine A4 (A3 (A3 (A2 ?_)))
 refine A6 rfl rfl rfl rfl rfl ?_
 refine A1 rfl rfl rfl (G4 rfl E6 (A0 rfl)) ?_
 refine A1 rfl rfl rfl (C7 rfl C6) ?_
 refine A4 (E1 ?_)
 refine K1 [(0, _), (1, _), (7, _)] _ (fun (i : Nat) => i ≤ l.length ∧ idxFrom (fun x => v == x) l 0 = idxFrom (fun x => v == x) (l.drop i) i) (fun (i : Nat) => []) (fun (i : Nat) => [(8, AV.int i)]) (fun (i : Nat) => l.length - i) (0) ?_ (J9 ⟨rfl, rfl, rfl, rfl, trivial⟩) ?_
 ·exact ⟨Nat.zero_le _, rfl⟩
 intro i hinv
 refine A3 (A2 ?_)
 refine A1 rfl rfl rfl (M2 rfl (A0 rfl) (A0 rfl)) ?_
 refine A4 (A3 ?_)
 refine D0 (A0 rfl) ?_ ?_
 ·intro h9
  have k9 := of_decide_eq_true h9; try simp only [A5] at k9
  have hlt : i < l.length := by omega
  obtain ⟨x, hx⟩ := get_some hlt
  refine D5 (A3 (E1 (A3 (A2 ?_))))
  refine A6 rfl rfl rfl rfl rfl ?_
  refine C2 rfl rfl rfl rfl rfl ?_
  refine A4 (A3 (A2 ?_))
  refine A6 rfl rfl rfl rfl rfl ?_
  refine A6 rfl rfl rfl rfl rfl ?_
  refine A6 rfl rfl rfl rfl rfl ?_
  refine A1 rfl rfl rfl (J4 rfl E6 G0 (A0 rfl) (A0 rfl) hx (by first | omega | (simp only [A5, B1, B5, C1, B0, szR] at *; omega))) ?_
  refine A1 rfl rfl rfl (N4 rfl (A0 rfl) H3 rfl) ?_
  refine A1 rfl rfl rfl (s4 rfl (A0 rfl) (A0 rfl)) ?_
  refine A4 ?_
  refine D0 (A0 rfl) ?_ ?_
  ·intro h16
   refine A3 (A2 ?_)
   refine A6 rfl rfl rfl rfl rfl ?_
   refine C2 rfl rfl rfl rfl rfl ?_
   refine A4 ?_
   refine C8 ?_
   exact I2 rfl (D1 rfl (by first | exact congrArg AV.int (by rw [hinv.2, drop_some hx, idxFrom, h16]; rfl) | exact congrArg AV.int (by rw [hinv.2, List.drop_eq_nil_of_le hge]; rfl)))
  ·intro h16
   refine D5 (A2 ?_)
   refine A1 rfl rfl rfl (H4 rfl (A0 rfl) C6 (by first | omega | (simp only [A5, B1, B5, C1, B0, szR] at *; omega))) ?_
   refine A6 rfl rfl rfl rfl rfl ?_
   refine A4 ?_
   refine M3 i (i + 1) ?_ ?_ (J9 ⟨rfl, rfl, rfl, rfl, trivial⟩)
   ·exact ⟨by omega, by rw [hinv.2, drop_some hx, idxFrom, h16]; simp⟩
   ·omega
 ·intro h9
  have k9 := of_decide_eq_false h9; try simp only [A5] at k9
  have hge : l.length ≤ i := by omega
  refine I4 ?_
  refine A3 (A2 ?_)
  refine A1 rfl rfl rfl (C3 rfl C6) ?_
  refine A4 ?_
  refine C8 ?_
  exact I2 rfl (D1 rfl (by first | exact congrArg AV.int (by rw [hinv.2, drop_some hx, idxFrom, h16]; rfl) | exact congrArg AV.int (by rw [hinv.2, List.drop_eq_nil_of_le hge]; rfl)))
theorem AN6 (l : List Str) (v : Str) : FSpec Tryz.prog 279 [strs l, AV.str v] (AV.bool (l.any fun x => v == x)) := by
 refine F3 Tryz.func279 rfl Tryz.ntmps279 rfl ?_
 refine A3 (A2 ?_)
 refine A1 rfl rfl rfl (C3 rfl F5) ?_
 refine A4 (A3 (A2 ?_))
 refine A6 rfl rfl rfl rfl rfl ?_
 refine A6 rfl rfl rfl rfl rfl ?_
 refine A1 rfl rfl rfl (F1 rfl Tryz.call296 rfl (AW4 _ _) (A7 (A0 rfl) (A7 (A0 rfl) D2))) ?_
 refine A1 rfl rfl rfl (f5 rfl (A0 rfl) C6) ?_
 refine C2 rfl rfl rfl rfl rfl ?_
 refine A4 ?_
 refine C8 ?_
 exact I2 rfl (D1 rfl (by exact congrArg AV.bool (q6 (fun x => v == x) l 0 (Int.le_refl 0))))
theorem Ai1 (a b : List TVer) : FSpec Tryz.prog 211 [AV.list 3 (a.map TVer.cs), AV.list 3 (b.map TVer.cs)] (AV.bool (decide (a = b))) := by
 refine F3 Tryz.func211 rfl Tryz.ntmps211 rfl ?_
 refine Q8 (t := 0) rfl fun hl => ?_
 try simp only [A5] at hl
 refine A3 (A2 ?_)
 refine A1 rfl rfl rfl (C3 rfl F5) ?_
 refine A4 (A3 (A3 (A2 ?_)))
 refine A6 rfl rfl rfl rfl rfl ?_
 refine A1 rfl rfl rfl (G4 rfl I7 (A0 rfl)) ?_
 refine A6 rfl rfl rfl rfl rfl ?_
 refine A1 rfl rfl rfl (G4 rfl I7 (A0 rfl)) ?_
 refine A1 rfl rfl rfl (Z7 rfl (A0 rfl) (A0 rfl)) ?_
 refine A4 ?_
 refine D0 (A0 rfl) ?_ ?_
 ·intro h10
  have k10 := W9 h10; try simp only [A5] at k10
  have hab : a ≠ b := by intro hc; subst hc; exact k10 rfl
  refine A3 (A2 ?_)
  refine A1 rfl rfl rfl (C3 rfl F5) ?_
  refine A4 ?_
  refine C8 ?_
  exact I2 rfl (D1 rfl (by exact congrArg AV.bool (by simp [hab])))
 ·intro h10
  have k10 := S8 h10; try simp only [A5] at k10
  have heq : a.length = b.length := by omega
  refine D5 (A3 (A3 (A2 ?_)))
  refine A6 rfl rfl rfl rfl rfl ?_
  refine A1 rfl rfl rfl (G4 rfl I7 (A0 rfl)) ?_
  refine A1 rfl rfl rfl (C7 rfl C6) ?_
  refine A4 (E1 ?_)
  refine K1 [(0, _), (1, _), (12, _)] _ (fun (i : Nat) => i ≤ a.length ∧ a.take i = b.take i) (fun (i : Nat) => []) (fun (i : Nat) => [(13, AV.int i)]) (fun (i : Nat) => a.length - i) (0) ?_ (J9 ⟨rfl, rfl, rfl, rfl, trivial⟩) ?_
  ·exact ⟨Nat.zero_le _, rfl⟩
  intro i hinv
  refine A3 (A2 ?_)
  refine A1 rfl rfl rfl (M2 rfl (A0 rfl) (A0 rfl)) ?_
  refine A4 (A3 ?_)
  refine D0 (A0 rfl) ?_ ?_
  ·intro h14
   have k14 := of_decide_eq_true h14; try simp only [A5] at k14
   have hlt : i < a.length := by omega
   obtain ⟨x, hx⟩ := get_some hlt
   obtain ⟨y, hy⟩ := get_some (show i < b.length by omega)
   refine D5 (A3 (E1 (A3 (A2 ?_))))
   refine A6 rfl rfl rfl rfl rfl ?_
   refine C2 rfl rfl rfl rfl rfl ?_
   refine A4 (A3 ?_)
   refine J5 (by kernel_rfl) (by kernel_rfl) rfl ?_
   refine B4 rfl rfl (C7 rfl (A0 rfl)) ?_
   refine B4 rfl rfl (C7 rfl (A0 rfl)) ?_
   refine B4 rfl rfl (J4 rfl I7 O0 (A0 rfl) (A0 rfl) hx (by first | omega | (simp only [A5, B1, B5, C1, B0, szR] at *; omega))) ?_
   refine B4 rfl rfl (K7 rfl (A0 rfl) d5 O0) ?_
   refine B4 rfl rfl (C7 rfl (A0 rfl)) ?_
   refine B4 rfl rfl (C7 rfl (A0 rfl)) ?_
   refine B4 rfl rfl (J4 rfl I7 O0 (A0 rfl) (A0 rfl) hy (by first | omega | (simp only [A5, B1, B5, C1, B0, szR] at *; omega))) ?_
   refine B4 rfl rfl (K7 rfl (A0 rfl) d5 O0) ?_
   refine B4 rfl rfl (AA2 rfl P8 (by kernel_rfl) (by kernel_rfl) (A0 rfl) (A0 rfl) (R7 (by kernel_rfl) C5 rfl rfl (f7 O3) (R7 (by kernel_rfl) H3 rfl rfl (r7 O2) (R7 (by kernel_rfl) K3 rfl rfl (i5 N7) m6)))) ?_
   refine O5 ?_
   refine D0 (A0 rfl) ?_ ?_
   ·intro h24
    have hab : a ≠ b := by intro hc; subst hc; rw [hx] at hy; injection hy with hy; subst hy; simp at h24
    refine A3 (A2 ?_)
    refine A1 rfl rfl rfl (C3 rfl F5) ?_
    refine A4 ?_
    refine C8 ?_
    exact I2 rfl (D1 rfl (by exact congrArg AV.bool (by simp [hab])))
   ·intro h24
    refine D5 (A2 ?_)
    refine A1 rfl rfl rfl (H4 rfl (A0 rfl) C6 (by first | omega | (simp only [A5, B1, B5, C1, B0, szR] at *; omega))) ?_
    refine A6 rfl rfl rfl rfl rfl ?_
    refine A4 ?_
    refine M3 i (i + 1) ?_ ?_ (J9 ⟨rfl, rfl, rfl, rfl, trivial⟩)
    ·exact ⟨by omega, W4 hinv.2 hx (by rw [hy]; congr 1; first | (simp_all; done) | (cases x; cases y; simp_all))⟩
    ·omega
  ·intro h14
   have k14 := of_decide_eq_false h14; try simp only [A5] at k14
   have hge : a.length ≤ i := by omega
   have hab : a = b := Y8 heq hinv.2 hge
   refine I4 ?_
   refine A3 (A2 ?_)
   refine A1 rfl rfl rfl (C3 rfl F5) ?_
   refine A4 ?_
   refine C8 ?_
   exact I2 rfl (D1 rfl (by exact congrArg AV.bool (by simp [hab])))
theorem Ab9 (a b : List TTold) : FSpec Tryz.prog 111 [AV.list 3 (a.map TTold.cs), AV.list 3 (b.map TTold.cs)] (AV.bool (decide (a = b))) := by
 refine F3 Tryz.func111 rfl Tryz.ntmps111 rfl ?_
 refine Q8 (t := 0) rfl fun hl => ?_
 try simp only [A5] at hl
 refine A3 (A2 ?_)
 refine A1 rfl rfl rfl (C3 rfl F5) ?_
 refine A4 (A3 (A3 (A2 ?_)))
 refine A6 rfl rfl rfl rfl rfl ?_
 refine A1 rfl rfl rfl (G4 rfl E5 (A0 rfl)) ?_
 refine A6 rfl rfl rfl rfl rfl ?_
 refine A1 rfl rfl rfl (G4 rfl E5 (A0 rfl)) ?_
 refine A1 rfl rfl rfl (Z7 rfl (A0 rfl) (A0 rfl)) ?_
 refine A4 ?_
 refine D0 (A0 rfl) ?_ ?_
 ·intro h10
  have k10 := W9 h10; try simp only [A5] at k10
  have hab : a ≠ b := by intro hc; subst hc; exact k10 rfl
  refine A3 (A2 ?_)
  refine A1 rfl rfl rfl (C3 rfl F5) ?_
  refine A4 ?_
  refine C8 ?_
  exact I2 rfl (D1 rfl (by exact congrArg AV.bool (by simp [hab])))
 ·intro h10
  have k10 := S8 h10; try simp only [A5] at k10
  have heq : a.length = b.length := by omega
  refine D5 (A3 (A3 (A2 ?_)))
  refine A6 rfl rfl rfl rfl rfl ?_
  refine A1 rfl rfl rfl (G4 rfl E5 (A0 rfl)) ?_
  refine A1 rfl rfl rfl (C7 rfl C6) ?_
  refine A4 (E1 ?_)
  refine K1 [(0, _), (1, _), (12, _)] _ (fun (i : Nat) => i ≤ a.length ∧ a.take i = b.take i) (fun (i : Nat) => []) (fun (i : Nat) => [(13, AV.int i)]) (fun (i : Nat) => a.length - i) (0) ?_ (J9 ⟨rfl, rfl, rfl, rfl, trivial⟩) ?_
  ·exact ⟨Nat.zero_le _, rfl⟩
  intro i hinv
  refine A3 (A2 ?_)
  refine A1 rfl rfl rfl (M2 rfl (A0 rfl) (A0 rfl)) ?_
  refine A4 (A3 ?_)
  refine D0 (A0 rfl) ?_ ?_
  ·intro h14
   have k14 := of_decide_eq_true h14; try simp only [A5] at k14
   have hlt : i < a.length := by omega
   obtain ⟨x, hx⟩ := get_some hlt
   obtain ⟨y, hy⟩ := get_some (show i < b.length by omega)
   refine D5 (A3 (E1 (A3 (A2 ?_))))
   refine A6 rfl rfl rfl rfl rfl ?_
   refine C2 rfl rfl rfl rfl rfl ?_
   refine A4 (A3 ?_)
   refine J5 (by kernel_rfl) (by kernel_rfl) rfl ?_
   refine B4 rfl rfl (C7 rfl (A0 rfl)) ?_
   refine B4 rfl rfl (C7 rfl (A0 rfl)) ?_
   refine B4 rfl rfl (J4 rfl E5 F9 (A0 rfl) (A0 rfl) hx (by first | omega | (simp only [A5, B1, B5, C1, B0, szR] at *; omega))) ?_
   refine B4 rfl rfl (K7 rfl (A0 rfl) P7 F9) ?_
   refine B4 rfl rfl (C7 rfl (A0 rfl)) ?_
   refine B4 rfl rfl (C7 rfl (A0 rfl)) ?_
   refine B4 rfl rfl (J4 rfl E5 F9 (A0 rfl) (A0 rfl) hy (by first | omega | (simp only [A5, B1, B5, C1, B0, szR] at *; omega))) ?_
   refine B4 rfl rfl (K7 rfl (A0 rfl) P7 F9) ?_
   refine B4 rfl rfl (AA2 rfl I9 (by kernel_rfl) (by kernel_rfl) (A0 rfl) (A0 rfl) (R7 (by kernel_rfl) C5 rfl rfl (f7 O3) (R7 (by kernel_rfl) K3 rfl rfl (i5 N7) (R7 (by kernel_rfl) C5 rfl rfl (f7 O3) m6)))) ?_
   refine O5 ?_
   refine D0 (A0 rfl) ?_ ?_
   ·intro h24
    have hab : a ≠ b := by intro hc; subst hc; rw [hx] at hy; injection hy with hy; subst hy; simp at h24
    refine A3 (A2 ?_)
    refine A1 rfl rfl rfl (C3 rfl F5) ?_
    refine A4 ?_
    refine C8 ?_
    exact I2 rfl (D1 rfl (by exact congrArg AV.bool (by simp [hab])))
   ·intro h24
    refine D5 (A2 ?_)
    refine A1 rfl rfl rfl (H4 rfl (A0 rfl) C6 (by first | omega | (simp only [A5, B1, B5, C1, B0, szR] at *; omega))) ?_
    refine A6 rfl rfl rfl rfl rfl ?_
    refine A4 ?_
    refine M3 i (i + 1) ?_ ?_ (J9 ⟨rfl, rfl, rfl, rfl, trivial⟩)
    ·exact ⟨by omega, W4 hinv.2 hx (by rw [hy]; congr 1; first | (simp_all; done) | (cases x; cases y; simp_all))⟩
    ·omega
  ·intro h14
   have k14 := of_decide_eq_false h14; try simp only [A5] at k14
   have hge : a.length ≤ i := by omega
   have hab : a = b := Y8 heq hinv.2 hge
   refine I4 ?_
   refine A3 (A2 ?_)
   refine A1 rfl rfl rfl (C3 rfl F5) ?_
   refine A4 ?_
   refine C8 ?_
   exact I2 rfl (D1 rfl (by exact congrArg AV.bool (by simp [hab])))
theorem AZ0 (l : List TWrite) (hl : l.length ≤ 4194304) : GSpec Tryz.prog 252 [AV.list 3 (l.map TWrite.cs)] [] (fun _ : Value => True) (fun v => [.arr v 77 3 (l.map TWrite.cs)]) (fun v => AV.is v) := by
 refine J3 Tryz.func252 rfl Tryz.ntmps252 rfl ?_
 refine m7 0 rfl ?_ ?_
 ·intro hnil
  have hn : l = [] := by cases l with | nil => rfl | cons x l => simp at hnil
  subst hn
  refine A3 (A2 ?_)
  refine S1 77 3 rfl rfl rfl rfl M6 ?_
  intro v2
  refine A4 (A3 (A3 (A2 ?_)))
  refine A6 rfl rfl rfl rfl rfl ?_
  refine A1 rfl rfl rfl (AD3 rfl G1 (A0 rfl)) ?_
  refine A4 ?_
  refine D0 (A0 rfl) ?_ ?_
  ·intro h4
   refine A3 (A2 ?_)
   refine S1 77 3 rfl rfl rfl rfl M6 ?_
   intro v2
   refine A4 ?_
   refine C8 ?_
   exact K0 [0] v2 (trivial) rfl (by rfl) (P3 rfl (D1 rfl (by first | rfl | (refine congrArg AV.bool ?_; simp_all; done))))
  ·intro h4
   cases h4
 ·skip
  refine A3 (A2 ?_)
  refine S1 77 3 rfl rfl rfl rfl M6 ?_
  intro v2
  refine A4 (A3 (A3 (A2 ?_)))
  refine A6 rfl rfl rfl rfl rfl ?_
  refine A1 rfl rfl rfl (AD4 rfl G1 (A0 rfl)) ?_
  refine A4 ?_
  refine D0 (A0 rfl) ?_ ?_
  ·intro h4
   cases h4
  ·intro h4
   refine D5 (A3 (A2 ?_))
   refine U2 rfl rfl rfl rfl G1 I6 ?_
   intro v5
   refine A6 rfl rfl rfl rfl rfl ?_
   refine N6 (by' := 40) 0 rfl rfl rfl rfl G1 Tryz.type77 rfl rfl rfl rfl rfl rfl (A0 rfl) (r5 (A0 rfl) t2) rfl (by first | omega | (simp only [A5, B1, B5, C1, B0, szR] at *; omega)) ?_
   intro v7_1
   refine C2 rfl rfl rfl rfl rfl ?_
   refine A4 ?_
   refine C8 ?_
   exact K0 [0] v7_1 (trivial) rfl (by rfl) (P3 rfl (D1 rfl (by first | rfl | (refine congrArg AV.bool ?_; simp_all; done))))
theorem Ai2 (l : List TVer) (hl : l.length ≤ 4194304) : GSpec Tryz.prog 284 [AV.list 3 (l.map TVer.cs)] [] (fun _ : Value => True) (fun v => [.arr v 197 3 (l.map TVer.cs)]) (fun v => AV.is v) := by
 refine J3 Tryz.func284 rfl Tryz.ntmps284 rfl ?_
 refine m7 0 rfl ?_ ?_
 ·intro hnil
  have hn : l = [] := by cases l with | nil => rfl | cons x l => simp at hnil
  subst hn
  refine A3 (A2 ?_)
  refine S1 197 3 rfl rfl rfl rfl M6 ?_
  intro v2
  refine A4 (A3 (A3 (A2 ?_)))
  refine A6 rfl rfl rfl rfl rfl ?_
  refine A1 rfl rfl rfl (AD3 rfl I7 (A0 rfl)) ?_
  refine A4 ?_
  refine D0 (A0 rfl) ?_ ?_
  ·intro h4
   refine A3 (A2 ?_)
   refine S1 197 3 rfl rfl rfl rfl M6 ?_
   intro v2
   refine A4 ?_
   refine C8 ?_
   exact K0 [0] v2 (trivial) rfl (by rfl) (P3 rfl (D1 rfl (by first | rfl | (refine congrArg AV.bool ?_; simp_all; done))))
  ·intro h4
   cases h4
 ·skip
  refine A3 (A2 ?_)
  refine S1 197 3 rfl rfl rfl rfl M6 ?_
  intro v2
  refine A4 (A3 (A3 (A2 ?_)))
  refine A6 rfl rfl rfl rfl rfl ?_
  refine A1 rfl rfl rfl (AD4 rfl I7 (A0 rfl)) ?_
  refine A4 ?_
  refine D0 (A0 rfl) ?_ ?_
  ·intro h4
   cases h4
  ·intro h4
   refine D5 (A3 (A2 ?_))
   refine U2 rfl rfl rfl rfl I7 O0 ?_
   intro v5
   refine A6 rfl rfl rfl rfl rfl ?_
   refine N6 (by' := 32) 0 rfl rfl rfl rfl I7 Tryz.type197 rfl rfl rfl rfl rfl rfl (A0 rfl) (r5 (A0 rfl) t2) rfl (by first | omega | (simp only [A5, B1, B5, C1, B0, szR] at *; omega)) ?_
   intro v7_1
   refine C2 rfl rfl rfl rfl rfl ?_
   refine A4 ?_
   refine C8 ?_
   exact K0 [0] v7_1 (trivial) rfl (by rfl) (P3 rfl (D1 rfl (by first | rfl | (refine congrArg AV.bool ?_; simp_all; done))))
theorem Ac0 (l : List TCell) (hl : l.length ≤ 4194304) : GSpec Tryz.prog 283 [AV.list 2 (l.map TCell.cs)] [] (fun _ : Value => True) (fun v => [.arr v 142 2 (l.map TCell.cs)]) (fun v => AV.is v) := by
 refine J3 Tryz.func283 rfl Tryz.ntmps283 rfl ?_
 refine m7 0 rfl ?_ ?_
 ·intro hnil
  have hn : l = [] := by cases l with | nil => rfl | cons x l => simp at hnil
  subst hn
  refine A3 (A2 ?_)
  refine S1 142 2 rfl rfl rfl rfl M6 ?_
  intro v2
  refine A4 (A3 (A3 (A2 ?_)))
  refine A6 rfl rfl rfl rfl rfl ?_
  refine A1 rfl rfl rfl (AD3 rfl E2 (A0 rfl)) ?_
  refine A4 ?_
  refine D0 (A0 rfl) ?_ ?_
  ·intro h4
   refine A3 (A2 ?_)
   refine S1 142 2 rfl rfl rfl rfl M6 ?_
   intro v2
   refine A4 ?_
   refine C8 ?_
   exact K0 [0] v2 (trivial) rfl (by rfl) (P3 rfl (D1 rfl (by first | rfl | (refine congrArg AV.bool ?_; simp_all; done))))
  ·intro h4
   cases h4
 ·skip
  refine A3 (A2 ?_)
  refine S1 142 2 rfl rfl rfl rfl M6 ?_
  intro v2
  refine A4 (A3 (A3 (A2 ?_)))
  refine A6 rfl rfl rfl rfl rfl ?_
  refine A1 rfl rfl rfl (AD4 rfl E2 (A0 rfl)) ?_
  refine A4 ?_
  refine D0 (A0 rfl) ?_ ?_
  ·intro h4
   cases h4
  ·intro h4
   refine D5 (A3 (A2 ?_))
   refine U2 rfl rfl rfl rfl E2 F7 ?_
   intro v5
   refine A6 rfl rfl rfl rfl rfl ?_
   refine N6 (by' := 40) 0 rfl rfl rfl rfl E2 Tryz.type142 rfl rfl rfl rfl rfl rfl (A0 rfl) (r5 (A0 rfl) t2) rfl (by first | omega | (simp only [A5, B1, B5, C1, B0, szR] at *; omega)) ?_
   intro v7_1
   refine C2 rfl rfl rfl rfl rfl ?_
   refine A4 ?_
   refine C8 ?_
   exact K0 [0] v7_1 (trivial) rfl (by rfl) (P3 rfl (D1 rfl (by first | rfl | (refine congrArg AV.bool ?_; simp_all; done))))
theorem Ac1 (l : List THeld) (hl : l.length ≤ 4194304) : GSpec Tryz.prog 221 [AV.list 5 (l.map THeld.cs)] [] (fun _ : Value => True) (fun v => [.arr v 45 5 (l.map THeld.cs)]) (fun v => AV.is v) := by
 refine J3 Tryz.func221 rfl Tryz.ntmps221 rfl ?_
 refine m7 0 rfl ?_ ?_
 ·intro hnil
  have hn : l = [] := by cases l with | nil => rfl | cons x l => simp at hnil
  subst hn
  refine A3 (A2 ?_)
  refine S1 45 5 rfl rfl rfl rfl M6 ?_
  intro v2
  refine A4 (A3 (A3 (A2 ?_)))
  refine A6 rfl rfl rfl rfl rfl ?_
  refine A1 rfl rfl rfl (AD3 rfl C9 (A0 rfl)) ?_
  refine A4 ?_
  refine D0 (A0 rfl) ?_ ?_
  ·intro h4
   refine A3 (A2 ?_)
   refine S1 45 5 rfl rfl rfl rfl M6 ?_
   intro v2
   refine A4 ?_
   refine C8 ?_
   exact K0 [0] v2 (trivial) rfl (by rfl) (P3 rfl (D1 rfl (by first | rfl | (refine congrArg AV.bool ?_; simp_all; done))))
  ·intro h4
   cases h4
 ·skip
  refine A3 (A2 ?_)
  refine S1 45 5 rfl rfl rfl rfl M6 ?_
  intro v2
  refine A4 (A3 (A3 (A2 ?_)))
  refine A6 rfl rfl rfl rfl rfl ?_
  refine A1 rfl rfl rfl (AD4 rfl C9 (A0 rfl)) ?_
  refine A4 ?_
  refine D0 (A0 rfl) ?_ ?_
  ·intro h4
   cases h4
  ·intro h4
   refine D5 (A3 (A2 ?_))
   refine U2 rfl rfl rfl rfl C9 D4 ?_
   intro v5
   refine A6 rfl rfl rfl rfl rfl ?_
   refine N6 (by' := 72) 0 rfl rfl rfl rfl C9 Tryz.type45 rfl rfl rfl rfl rfl rfl (A0 rfl) (r5 (A0 rfl) t2) rfl (by first | omega | (simp only [A5, B1, B5, C1, B0, szR] at *; omega)) ?_
   intro v7_1
   refine C2 rfl rfl rfl rfl rfl ?_
   refine A4 ?_
   refine C8 ?_
   exact K0 [0] v7_1 (trivial) rfl (by rfl) (P3 rfl (D1 rfl (by first | rfl | (refine congrArg AV.bool ?_; simp_all; done))))
theorem AJ0 (l : List TTold) (hl : l.length ≤ 4194304) : GSpec Tryz.prog 254 [AV.list 3 (l.map TTold.cs)] [] (fun _ : Value => True) (fun v => [.arr v 39 3 (l.map TTold.cs)]) (fun v => AV.is v) := by
 refine J3 Tryz.func254 rfl Tryz.ntmps254 rfl ?_
 refine m7 0 rfl ?_ ?_
 ·intro hnil
  have hn : l = [] := by cases l with | nil => rfl | cons x l => simp at hnil
  subst hn
  refine A3 (A2 ?_)
  refine S1 39 3 rfl rfl rfl rfl M6 ?_
  intro v2
  refine A4 (A3 (A3 (A2 ?_)))
  refine A6 rfl rfl rfl rfl rfl ?_
  refine A1 rfl rfl rfl (AD3 rfl E5 (A0 rfl)) ?_
  refine A4 ?_
  refine D0 (A0 rfl) ?_ ?_
  ·intro h4
   refine A3 (A2 ?_)
   refine S1 39 3 rfl rfl rfl rfl M6 ?_
   intro v2
   refine A4 ?_
   refine C8 ?_
   exact K0 [0] v2 (trivial) rfl (by rfl) (P3 rfl (D1 rfl (by first | rfl | (refine congrArg AV.bool ?_; simp_all; done))))
  ·intro h4
   cases h4
 ·skip
  refine A3 (A2 ?_)
  refine S1 39 3 rfl rfl rfl rfl M6 ?_
  intro v2
  refine A4 (A3 (A3 (A2 ?_)))
  refine A6 rfl rfl rfl rfl rfl ?_
  refine A1 rfl rfl rfl (AD4 rfl E5 (A0 rfl)) ?_
  refine A4 ?_
  refine D0 (A0 rfl) ?_ ?_
  ·intro h4
   cases h4
  ·intro h4
   refine D5 (A3 (A2 ?_))
   refine U2 rfl rfl rfl rfl E5 F9 ?_
   intro v5
   refine A6 rfl rfl rfl rfl rfl ?_
   refine N6 (by' := 24) 0 rfl rfl rfl rfl E5 Tryz.type39 rfl rfl rfl rfl rfl rfl (A0 rfl) (r5 (A0 rfl) t2) rfl (by first | omega | (simp only [A5, B1, B5, C1, B0, szR] at *; omega)) ?_
   intro v7_1
   refine C2 rfl rfl rfl rfl rfl ?_
   refine A4 ?_
   refine C8 ?_
   exact K0 [0] v7_1 (trivial) rfl (by rfl) (P3 rfl (D1 rfl (by first | rfl | (refine congrArg AV.bool ?_; simp_all; done))))
theorem AW5 (l : List Str) (hl : l.length ≤ 4194304) : GSpec Tryz.prog 236 [strs l] [] (fun _ : Value => True) (fun v => [.arr v 9 1 (l.map (fun x => [AV.str x]))]) (fun v => AV.is v) := by
 refine J3 Tryz.func236 rfl Tryz.ntmps236 rfl ?_
 refine m7 0 rfl ?_ ?_
 ·intro hnil
  have hn : l = [] := by cases l with | nil => rfl | cons x l => simp at hnil
  subst hn
  refine A3 (A2 ?_)
  refine S1 9 1 rfl rfl rfl rfl M6 ?_
  intro v2
  refine A4 (A3 (A3 (A2 ?_)))
  refine A6 rfl rfl rfl rfl rfl ?_
  refine A1 rfl rfl rfl (AD3 rfl E6 (A0 rfl)) ?_
  refine A4 ?_
  refine D0 (A0 rfl) ?_ ?_
  ·intro h4
   refine A3 (A2 ?_)
   refine S1 9 1 rfl rfl rfl rfl M6 ?_
   intro v2
   refine A4 ?_
   refine C8 ?_
   exact K0 [0] v2 (trivial) rfl (by rfl) (P3 rfl (D1 rfl (by first | rfl | (refine congrArg AV.bool ?_; simp_all; done))))
  ·intro h4
   cases h4
 ·skip
  refine A3 (A2 ?_)
  refine S1 9 1 rfl rfl rfl rfl M6 ?_
  intro v2
  refine A4 (A3 (A3 (A2 ?_)))
  refine A6 rfl rfl rfl rfl rfl ?_
  refine A1 rfl rfl rfl (AD4 rfl E6 (A0 rfl)) ?_
  refine A4 ?_
  refine D0 (A0 rfl) ?_ ?_
  ·intro h4
   cases h4
  ·intro h4
   refine D5 (A3 (A2 ?_))
   refine U2 rfl rfl rfl rfl E6 G0 ?_
   intro v5
   refine A6 rfl rfl rfl rfl rfl ?_
   refine N6 (by' := 16) 0 rfl rfl rfl rfl E6 Tryz.type9 rfl rfl rfl rfl rfl rfl (A0 rfl) (r5 (A0 rfl) t2) rfl (by first | omega | (simp only [A5, B1, B5, C1, B0, szR] at *; omega)) ?_
   intro v7_1
   refine C2 rfl rfl rfl rfl rfl ?_
   refine A4 ?_
   refine C8 ?_
   exact K0 [0] v7_1 (trivial) rfl (by rfl) (P3 rfl (D1 rfl (by first | rfl | (refine congrArg AV.bool ?_; simp_all; done))))
theorem Ac2 (v vv : Value) (l : List THeld) (x : THeld) (i : Nat) (hi : i ≤ l.length) (hl : l.length ≤ 4194304) : GSpec Tryz.prog 200 [AV.is v, AV.int i, AV.is vv] [.arr v 45 5 (l.map THeld.cs), .arr vv 45 5 [THeld.cs x]] (fun _ : Value => True) (fun v => [.arr v 45 5 ((l.take i ++ x :: l.drop i).map THeld.cs)]) (fun v => AV.is v) := by
 have hn : (l.map THeld.cs).length = l.length := A5 _
 have h1 : ([THeld.cs x] : List (List AV)).length = 1 := rfl
 have e28 : ((l.map THeld.cs).length : Int) + (([THeld.cs x] : List (List AV)).length : Int) = ((l.length + 1 : Nat) : Int) := by rw [hn, h1]; rfl
 have e49 : (i : Int) + (([THeld.cs x] : List (List AV)).length : Int) = ((i + 1 : Nat) : Int) := by rw [h1]; rfl
 have e39 : ((l.length + 1 : Nat) : Int) - (i : Int) = ((l.length + 1 - i : Nat) : Int) := by omega
 refine J3 Tryz.func200 rfl Tryz.ntmps200 rfl ?_
 refine i7 0 rfl ?_ ?_
 ·intro hv hes; subst hv
  have hl0 : l = [] := by cases l with | nil => rfl | cons y l => (simp at hes)
  subst hl0
  have hi0 : i = 0 := by simpa using hi
  subst hi0
  refine i7 1 rfl (fun _ h => by cases h) ?_
  intro gv cv hvv _ _
  subst hvv
  refine A3 (A2 ?_)
  refine A1 rfl rfl rfl (C3 rfl M6) ?_
  refine A4 (A3 (A2 ?_))
  refine A6 rfl rfl rfl rfl rfl ?_
  refine A6 rfl rfl rfl rfl rfl ?_
  refine A1 rfl rfl rfl (AR8 0 rfl C9 D4 (A0 rfl) rfl (A0 rfl) (by first | omega | (simp only [A5, B1, B5, C1, B0, szR] at *; omega)) (by first | omega | (simp only [A5, B1, B5, C1, B0, szR] at *; omega))) ?_
  refine A4 (A3 (A2 ?_))
  refine A6 rfl rfl rfl rfl rfl ?_
  refine A1 rfl rfl rfl (m4 rfl C9 (A0 rfl)) ?_
  refine C2 rfl rfl rfl rfl rfl ?_
  refine A4 (A3 (A3 (A2 ?_)))
  refine A6 rfl rfl rfl rfl rfl ?_
  refine A1 rfl rfl rfl (N3 rfl (A0 rfl) C6) ?_
  refine A4 ?_
  refine D0 (A0 rfl) ?_ ?_
  ·intro h16
   have k16 := M1 h16; try simp only [A5] at k16
   rw [h1] at k16; omega
  ·intro h16
   have k16 := M0 h16; try simp only [A5] at k16
   refine D5 (A3 (A2 ?_))
   refine A6 rfl rfl rfl rfl rfl ?_
   refine A1 rfl rfl rfl (V4 0 rfl C9 (A0 rfl) rfl) ?_
   refine C2 rfl rfl rfl rfl rfl ?_
   refine A4 (A3 (A3 (A2 ?_)))
   refine A6 rfl rfl rfl rfl rfl ?_
   refine A6 rfl rfl rfl rfl rfl ?_
   refine A1 rfl rfl rfl (N3 rfl (A0 rfl) (A0 rfl)) ?_
   refine A4 ?_
   refine D0 (A0 rfl) ?_ ?_
   ·intro h22
    have k22 := M1 h22; try simp only [A5] at k22
    refine A3 (A2 ?_)
    refine A6 rfl rfl rfl rfl rfl ?_
    refine A6 rfl rfl rfl rfl rfl ?_
    refine o6 (by' := 72) 0 rfl rfl rfl rfl C9 Tryz.type45 rfl rfl rfl rfl rfl rfl (A0 rfl) (a8 1 rfl (A0 rfl)) (by simp) rfl (by simp only [A5, B5, C1]; omega) ?_
    intro v25
    refine C2 rfl rfl rfl rfl rfl ?_
    refine A4 ?_
    refine C8 ?_
    exact K0 [0] v25 (trivial) rfl (by exact congrArg (fun z => [Own.arr _ 45 5 z]) (by first | exact d6 hi (by simp) | exact Z6 (by omega) | (have hil : i = l.length := (by omega); subst hil; simp; done) | (simp; done))) (P3 rfl (D1 rfl (by first | rfl | (rw [hn]))))
   ·intro h22
    have k22 := M0 h22; try simp only [A5] at k22
    exact absurd rfl k22
 ·intro g cap hv hlc hcm; subst hv
  refine i7 1 rfl (fun _ h => by cases h) ?_
  intro gv cv hvv _ _
  subst hvv
  refine A3 (A2 ?_)
  refine A1 rfl rfl rfl (C3 rfl M6) ?_
  refine A4 (A3 (A2 ?_))
  refine A6 rfl rfl rfl rfl rfl ?_
  refine A6 rfl rfl rfl rfl rfl ?_
  refine A1 rfl rfl rfl (X4 rfl C9 D4 (A0 rfl) (A0 rfl) (by first | omega | (simp only [A5, B1, B5, C1, B0, szR] at *; omega)) (by first | omega | (simp only [A5, B1, B5, C1, B0, szR] at *; omega))) ?_
  refine A4 (A3 (A2 ?_))
  refine A6 rfl rfl rfl rfl rfl ?_
  refine A1 rfl rfl rfl (m4 rfl C9 (A0 rfl)) ?_
  refine C2 rfl rfl rfl rfl rfl ?_
  refine A4 (A3 (A3 (A2 ?_)))
  refine A6 rfl rfl rfl rfl rfl ?_
  refine A1 rfl rfl rfl (N3 rfl (A0 rfl) C6) ?_
  refine A4 ?_
  refine D0 (A0 rfl) ?_ ?_
  ·intro h16
   have k16 := M1 h16; try simp only [A5] at k16
   rw [h1] at k16; omega
  ·intro h16
   have k16 := M0 h16; try simp only [A5] at k16
   refine D5 (A3 (A2 ?_))
   refine A6 rfl rfl rfl rfl rfl ?_
   refine A1 rfl rfl rfl (m4 rfl C9 (A0 rfl)) ?_
   refine C2 rfl rfl rfl rfl rfl ?_
   refine A4 (A3 (A3 (A2 ?_)))
   refine A6 rfl rfl rfl rfl rfl ?_
   refine A6 rfl rfl rfl rfl rfl ?_
   refine A1 rfl rfl rfl (N3 rfl (A0 rfl) (A0 rfl)) ?_
   refine A4 ?_
   refine D0 (A0 rfl) ?_ ?_
   ·intro h22
    have k22 := M1 h22; try simp only [A5] at k22
    refine A3 (A2 ?_)
    refine A6 rfl rfl rfl rfl rfl ?_
    refine A6 rfl rfl rfl rfl rfl ?_
    refine o6 (by' := 72) 0 rfl rfl rfl rfl C9 Tryz.type45 rfl rfl rfl rfl rfl rfl (A0 rfl) (a8 1 rfl (A0 rfl)) (by simp) rfl (by simp only [A5, B5, C1]; omega) ?_
    intro v25
    refine C2 rfl rfl rfl rfl rfl ?_
    refine A4 ?_
    refine C8 ?_
    exact K0 [0] v25 (trivial) rfl (by exact congrArg (fun z => [Own.arr _ 45 5 z]) (by first | exact d6 hi (by simp) | exact Z6 (by omega) | (have hil : i = l.length := (by omega); subst hil; simp; done) | (simp; done))) (P3 rfl (D1 rfl (by first | rfl | (rw [hn]))))
   ·intro h22
    have k22 := M0 h22; try simp only [A5] at k22
    refine D5 (A3 (A3 (A2 ?_)))
    refine A6 rfl rfl rfl rfl rfl ?_
    refine A6 rfl rfl rfl rfl rfl ?_
    refine A1 rfl rfl rfl (H4 rfl (A0 rfl) (A0 rfl) (by first | omega | (simp only [A5, B1, B5, C1, B0, szR] at *; omega))) ?_
    rw [e28]
    refine A6 rfl rfl rfl rfl rfl ?_
    refine A1 rfl rfl rfl (Al1 rfl C9 (A0 rfl)) ?_
    refine A1 rfl rfl rfl (P4 rfl (A0 rfl) (A0 rfl)) ?_
    refine A4 ?_
    refine D0 (A0 rfl) ?_ ?_
    ·intro h31
     have k31 := of_decide_eq_true h31; try simp only [A5] at k31
     refine A3 (A2 ?_)
     refine A6 rfl rfl rfl rfl rfl ?_
     refine A6 rfl rfl rfl rfl rfl ?_
     refine A1 rfl rfl rfl (AK7 rfl C9 D4 (A0 rfl) (A0 rfl) (by omega) (by rw [hn] at hlc; omega)) ?_
     refine A6 rfl rfl rfl rfl rfl ?_
     refine A6 rfl rfl rfl rfl rfl ?_
     refine A1 rfl rfl rfl (H4 rfl (A0 rfl) (A0 rfl) (by first | omega | (simp only [A5, B1, B5, C1, B0, szR] at *; omega))) ?_
     rw [e28]
     refine A6 rfl rfl rfl rfl rfl ?_
     refine A1 rfl rfl rfl (S5 rfl (A0 rfl) (A0 rfl) (by first | omega | (simp only [A5, B1, B5, C1, B0, szR] at *; omega))) ?_
     rw [e39, Int.toNat_natCast]
     refine AK8 (by' := 72) (j := i) (m := l.length + 1 - i) 0 rfl rfl rfl rfl C9 O3 Tryz.type45 rfl rfl rfl rfl rfl rfl (A0 rfl) (A0 rfl) rfl (by rw [hn]; exact hi) (by omega) (by omega) (by omega) (by omega) ?_
     intro g2 cap2 hcap2
     refine C2 rfl rfl rfl rfl rfl ?_
     refine A4 (A3 (A2 ?_))
     refine A6 rfl rfl rfl rfl rfl ?_
     refine A6 rfl rfl rfl rfl rfl ?_
     refine A1 rfl rfl rfl (X4 rfl C9 D4 (A0 rfl) (A0 rfl) (by first | omega | (simp only [A5, B1, B5, C1, B0, szR] at *; omega)) (by first | omega | (simp only [A5, B1, B5, C1, B0, szR] at *; omega))) ?_
     refine A6 rfl rfl rfl rfl rfl ?_
     rw [Int.toNat_natCast]
     refine o5 (k := i) 0 rfl rfl rfl rfl C9 Tryz.type45 rfl (A0 rfl) (a8 2 rfl (A0 rfl)) rfl (by rw [h1]; omega) (by rw [h1]; omega) hcap2 (by simp) ?_
     refine A4 (A3 ?_)
     refine Q6 8 (by kernel_rfl) (by kernel_rfl) rfl ?_
     refine B4 rfl rfl (C7 rfl (A0 rfl)) ?_
     refine B4 rfl rfl (C7 rfl (A0 rfl)) ?_
     refine B4 rfl rfl (C7 rfl (A0 rfl)) ?_
     refine B4 rfl rfl (H4 rfl (A0 rfl) (A0 rfl) (by first | omega | (simp only [A5, B1, B5, C1, B0, szR] at *; omega))) ?_
     rw [e49]
     refine B4 rfl rfl (X4 rfl C9 D4 (A0 rfl) (A0 rfl) (by first | omega | (simp only [A5, B1, B5, C1, B0, szR] at *; omega)) (by first | omega | (simp only [A5, B1, B5, C1, B0, szR] at *; omega))) ?_
     refine B4 rfl rfl (C7 rfl (A0 rfl)) ?_
     refine B4 rfl rfl (C7 rfl (A0 rfl)) ?_
     refine B4 rfl rfl (X4 rfl C9 D4 (A0 rfl) (A0 rfl) (by first | omega | (simp only [A5, B1, B5, C1, B0, szR] at *; omega)) (by first | omega | (simp only [A5, B1, B5, C1, B0, szR] at *; omega))) ?_
     refine O5 ?_
     simp only [Int.toNat_natCast]
     refine o5 (k := i + 1) 0 rfl rfl rfl rfl C9 Tryz.type45 rfl (A0 rfl) (AR9 1 rfl (A0 rfl)) rfl (by rw [List.length_drop, hn]; omega) (by rw [List.length_drop, hn]; omega) hcap2 (by intro h; have := congrArg List.length h; rw [List.length_drop, hn] at this; simp at this; omega) ?_
     refine A4 (A3 (A2 ?_))
     refine A6 rfl rfl rfl rfl rfl ?_
     refine C2 rfl rfl rfl rfl rfl ?_
     refine A4 ?_
     refine C8 ?_
     exact K0 [0] (slv g2 (i + (l.length + 1 - i)) cap2) (trivial) rfl (by exact congrArg (fun z => [Own.arr _ 45 5 z]) (by first | exact d6 hi (by simp) | exact Z6 (by omega) | (have hil : i = l.length := (by omega); subst hil; simp; done) | (simp; done))) (P3 rfl (D1 rfl (by first | rfl | (rw [hn]))))
    ·intro h31
     have k31 := of_decide_eq_false h31; try simp only [A5] at k31
     refine D5 (A3 (A2 ?_))
     refine A6 rfl rfl rfl rfl rfl ?_
     refine A6 rfl rfl rfl rfl rfl ?_
     refine A6 rfl rfl rfl rfl rfl ?_
     refine A1 rfl rfl rfl (H4 rfl (A0 rfl) (A0 rfl) (by first | omega | (simp only [A5, B1, B5, C1, B0, szR] at *; omega))) ?_
     rw [e28]
     refine A1 rfl rfl rfl (AK7 rfl C9 D4 (A0 rfl) (A0 rfl) (by first | omega | (simp only [A5, B1, B5, C1, B0, szR] at *; omega)) (by first | omega | (simp only [A5, B1, B5, C1, B0, szR] at *; omega))) ?_
     rw [Int.toNat_natCast]
     refine C2 rfl rfl rfl rfl rfl ?_
     refine A4 (A3 (A3 (A2 ?_)))
     refine A6 rfl rfl rfl rfl rfl ?_
     refine A6 rfl rfl rfl rfl rfl ?_
     refine A6 rfl rfl rfl rfl rfl ?_
     refine A6 rfl rfl rfl rfl rfl ?_
     refine A1 rfl rfl rfl (H4 rfl (A0 rfl) (A0 rfl) (by first | omega | (simp only [A5, B1, B5, C1, B0, szR] at *; omega))) ?_
     rw [e49]
     refine A1 rfl rfl rfl (X4 rfl C9 D4 (A0 rfl) (A0 rfl) (by first | omega | (simp only [A5, B1, B5, C1, B0, szR] at *; omega)) (by first | omega | (simp only [A5, B1, B5, C1, B0, szR] at *; omega))) ?_
     rw [Int.toNat_natCast]
     refine A1 rfl rfl rfl (AH0 (tb := 4) 1 0 rfl Tryz.func258 (by kernel_rfl) (by kernel_rfl) (by kernel_rfl) (by kernel_rfl) C9 D4 (A0 rfl) (A0 rfl) rfl rfl rfl (by omega) rfl) ?_
     refine A1 rfl rfl rfl (N1 rfl (A0 rfl)) ?_
     refine A4 ?_
     refine D0 (A0 rfl) ?_ ?_
     ·intro h68
      refine A3 ?_
      refine Q6 8 (by kernel_rfl) (by kernel_rfl) rfl ?_
      refine B4 rfl rfl (C7 rfl (A0 rfl)) ?_
      refine B4 rfl rfl (C7 rfl (A0 rfl)) ?_
      refine B4 rfl rfl (C7 rfl (A0 rfl)) ?_
      refine B4 rfl rfl (H4 rfl (A0 rfl) (A0 rfl) (by first | omega | (simp only [A5, B1, B5, C1, B0, szR] at *; omega))) ?_
      rw [e49]
      refine B4 rfl rfl (X4 rfl C9 D4 (A0 rfl) (A0 rfl) (by first | omega | (simp only [A5, B1, B5, C1, B0, szR] at *; omega)) (by first | omega | (simp only [A5, B1, B5, C1, B0, szR] at *; omega))) ?_
      refine B4 rfl rfl (C7 rfl (A0 rfl)) ?_
      refine B4 rfl rfl (C7 rfl (A0 rfl)) ?_
      refine B4 rfl rfl (X4 rfl C9 D4 (A0 rfl) (A0 rfl) (by first | omega | (simp only [A5, B1, B5, C1, B0, szR] at *; omega)) (by first | omega | (simp only [A5, B1, B5, C1, B0, szR] at *; omega))) ?_
      refine O5 ?_
      simp only [Int.toNat_natCast]
      refine AV7 (k := i) (len := (l.map THeld.cs).length) 0 rfl rfl rfl rfl C9 Tryz.type45 rfl (by rw [hn]; exact A0 rfl) (by rw [hn]; exact A0 rfl) rfl (by omega) (by omega) ?_
      intro j77
      refine A4 (A3 (A2 ?_))
      refine A6 rfl rfl rfl rfl rfl ?_
      refine A6 rfl rfl rfl rfl rfl ?_
      refine A1 rfl rfl rfl (X4 rfl C9 D4 (A0 rfl) (A0 rfl) (by first | omega | (simp only [A5, B1, B5, C1, B0, szR] at *; omega)) (by first | omega | (simp only [A5, B1, B5, C1, B0, szR] at *; omega))) ?_
      refine A6 rfl rfl rfl rfl rfl ?_
      rw [Int.toNat_natCast]
      refine o5 (k := i) 0 rfl rfl rfl rfl C9 Tryz.type45 rfl (A0 rfl) (a8 1 rfl (A0 rfl)) rfl (by rw [h1, hn]; omega) (by rw [h1]; omega) (by omega) (by simp) ?_
      refine A4 (A3 (A2 ?_))
      refine A6 rfl rfl rfl rfl rfl ?_
      refine C2 rfl rfl rfl rfl rfl ?_
      refine A4 ?_
      refine C8 ?_
      exact K0 [0] (slv g ((l.map THeld.cs).length + 1) cap) (trivial) rfl (by exact congrArg (fun z => [Own.arr _ 45 5 z]) (by first | exact d6 hi (by simp) | exact Z6 (by omega) | (have hil : i = l.length := (by omega); subst hil; simp; done) | (simp; done))) (P3 rfl (D1 rfl (by first | rfl | (rw [hn]))))
     ·intro h68
      cases h68
theorem p4 (v vv : Value) (l : List TTold) (x : TTold) (i : Nat) (hi : i ≤ l.length) (hl : l.length ≤ 4194304) : GSpec Tryz.prog 257 [AV.is v, AV.int i, AV.is vv] [.arr v 39 3 (l.map TTold.cs), .arr vv 39 3 [TTold.cs x]] (fun _ : Value => True) (fun v => [.arr v 39 3 ((l.take i ++ x :: l.drop i).map TTold.cs)]) (fun v => AV.is v) := by
 have hn : (l.map TTold.cs).length = l.length := A5 _
 have h1 : ([TTold.cs x] : List (List AV)).length = 1 := rfl
 have e28 : ((l.map TTold.cs).length : Int) + (([TTold.cs x] : List (List AV)).length : Int) = ((l.length + 1 : Nat) : Int) := by rw [hn, h1]; rfl
 have e49 : (i : Int) + (([TTold.cs x] : List (List AV)).length : Int) = ((i + 1 : Nat) : Int) := by rw [h1]; rfl
 have e39 : ((l.length + 1 : Nat) : Int) - (i : Int) = ((l.length + 1 - i : Nat) : Int) := by omega
 refine J3 Tryz.func257 rfl Tryz.ntmps257 rfl ?_
 refine i7 0 rfl ?_ ?_
 ·intro hv hes; subst hv
  have hl0 : l = [] := by cases l with | nil => rfl | cons y l => (simp at hes)
  subst hl0
  have hi0 : i = 0 := by simpa using hi
  subst hi0
  refine i7 1 rfl (fun _ h => by cases h) ?_
  intro gv cv hvv _ _
  subst hvv
  refine A3 (A2 ?_)
  refine A1 rfl rfl rfl (C3 rfl M6) ?_
  refine A4 (A3 (A2 ?_))
  refine A6 rfl rfl rfl rfl rfl ?_
  refine A6 rfl rfl rfl rfl rfl ?_
  refine A1 rfl rfl rfl (AR8 0 rfl E5 F9 (A0 rfl) rfl (A0 rfl) (by first | omega | (simp only [A5, B1, B5, C1, B0, szR] at *; omega)) (by first | omega | (simp only [A5, B1, B5, C1, B0, szR] at *; omega))) ?_
  refine A4 (A3 (A2 ?_))
  refine A6 rfl rfl rfl rfl rfl ?_
  refine A1 rfl rfl rfl (m4 rfl E5 (A0 rfl)) ?_
  refine C2 rfl rfl rfl rfl rfl ?_
  refine A4 (A3 (A3 (A2 ?_)))
  refine A6 rfl rfl rfl rfl rfl ?_
  refine A1 rfl rfl rfl (N3 rfl (A0 rfl) C6) ?_
  refine A4 ?_
  refine D0 (A0 rfl) ?_ ?_
  ·intro h16
   have k16 := M1 h16; try simp only [A5] at k16
   rw [h1] at k16; omega
  ·intro h16
   have k16 := M0 h16; try simp only [A5] at k16
   refine D5 (A3 (A2 ?_))
   refine A6 rfl rfl rfl rfl rfl ?_
   refine A1 rfl rfl rfl (V4 0 rfl E5 (A0 rfl) rfl) ?_
   refine C2 rfl rfl rfl rfl rfl ?_
   refine A4 (A3 (A3 (A2 ?_)))
   refine A6 rfl rfl rfl rfl rfl ?_
   refine A6 rfl rfl rfl rfl rfl ?_
   refine A1 rfl rfl rfl (N3 rfl (A0 rfl) (A0 rfl)) ?_
   refine A4 ?_
   refine D0 (A0 rfl) ?_ ?_
   ·intro h22
    have k22 := M1 h22; try simp only [A5] at k22
    refine A3 (A2 ?_)
    refine A6 rfl rfl rfl rfl rfl ?_
    refine A6 rfl rfl rfl rfl rfl ?_
    refine o6 (by' := 24) 0 rfl rfl rfl rfl E5 Tryz.type39 rfl rfl rfl rfl rfl rfl (A0 rfl) (a8 1 rfl (A0 rfl)) (by simp) rfl (by simp only [A5, B5, C1]; omega) ?_
    intro v25
    refine C2 rfl rfl rfl rfl rfl ?_
    refine A4 ?_
    refine C8 ?_
    exact K0 [0] v25 (trivial) rfl (by exact congrArg (fun z => [Own.arr _ 39 3 z]) (by first | exact d6 hi (by simp) | exact Z6 (by omega) | (have hil : i = l.length := (by omega); subst hil; simp; done) | (simp; done))) (P3 rfl (D1 rfl (by first | rfl | (rw [hn]))))
   ·intro h22
    have k22 := M0 h22; try simp only [A5] at k22
    exact absurd rfl k22
 ·intro g cap hv hlc hcm; subst hv
  refine i7 1 rfl (fun _ h => by cases h) ?_
  intro gv cv hvv _ _
  subst hvv
  refine A3 (A2 ?_)
  refine A1 rfl rfl rfl (C3 rfl M6) ?_
  refine A4 (A3 (A2 ?_))
  refine A6 rfl rfl rfl rfl rfl ?_
  refine A6 rfl rfl rfl rfl rfl ?_
  refine A1 rfl rfl rfl (X4 rfl E5 F9 (A0 rfl) (A0 rfl) (by first | omega | (simp only [A5, B1, B5, C1, B0, szR] at *; omega)) (by first | omega | (simp only [A5, B1, B5, C1, B0, szR] at *; omega))) ?_
  refine A4 (A3 (A2 ?_))
  refine A6 rfl rfl rfl rfl rfl ?_
  refine A1 rfl rfl rfl (m4 rfl E5 (A0 rfl)) ?_
  refine C2 rfl rfl rfl rfl rfl ?_
  refine A4 (A3 (A3 (A2 ?_)))
  refine A6 rfl rfl rfl rfl rfl ?_
  refine A1 rfl rfl rfl (N3 rfl (A0 rfl) C6) ?_
  refine A4 ?_
  refine D0 (A0 rfl) ?_ ?_
  ·intro h16
   have k16 := M1 h16; try simp only [A5] at k16
   rw [h1] at k16; omega
  ·intro h16
   have k16 := M0 h16; try simp only [A5] at k16
   refine D5 (A3 (A2 ?_))
   refine A6 rfl rfl rfl rfl rfl ?_
   refine A1 rfl rfl rfl (m4 rfl E5 (A0 rfl)) ?_
   refine C2 rfl rfl rfl rfl rfl ?_
   refine A4 (A3 (A3 (A2 ?_)))
   refine A6 rfl rfl rfl rfl rfl ?_
   refine A6 rfl rfl rfl rfl rfl ?_
   refine A1 rfl rfl rfl (N3 rfl (A0 rfl) (A0 rfl)) ?_
   refine A4 ?_
   refine D0 (A0 rfl) ?_ ?_
   ·intro h22
    have k22 := M1 h22; try simp only [A5] at k22
    refine A3 (A2 ?_)
    refine A6 rfl rfl rfl rfl rfl ?_
    refine A6 rfl rfl rfl rfl rfl ?_
    refine o6 (by' := 24) 0 rfl rfl rfl rfl E5 Tryz.type39 rfl rfl rfl rfl rfl rfl (A0 rfl) (a8 1 rfl (A0 rfl)) (by simp) rfl (by simp only [A5, B5, C1]; omega) ?_
    intro v25
    refine C2 rfl rfl rfl rfl rfl ?_
    refine A4 ?_
    refine C8 ?_
    exact K0 [0] v25 (trivial) rfl (by exact congrArg (fun z => [Own.arr _ 39 3 z]) (by first | exact d6 hi (by simp) | exact Z6 (by omega) | (have hil : i = l.length := (by omega); subst hil; simp; done) | (simp; done))) (P3 rfl (D1 rfl (by first | rfl | (rw [hn]))))
   ·intro h22
    have k22 := M0 h22; try simp only [A5] at k22
    refine D5 (A3 (A3 (A2 ?_)))
    refine A6 rfl rfl rfl rfl rfl ?_
    refine A6 rfl rfl rfl rfl rfl ?_
    refine A1 rfl rfl rfl (H4 rfl (A0 rfl) (A0 rfl) (by first | omega | (simp only [A5, B1, B5, C1, B0, szR] at *; omega))) ?_
    rw [e28]
    refine A6 rfl rfl rfl rfl rfl ?_
    refine A1 rfl rfl rfl (Al1 rfl E5 (A0 rfl)) ?_
    refine A1 rfl rfl rfl (P4 rfl (A0 rfl) (A0 rfl)) ?_
    refine A4 ?_
    refine D0 (A0 rfl) ?_ ?_
    ·intro h31
     have k31 := of_decide_eq_true h31; try simp only [A5] at k31
     refine A3 (A2 ?_)
     refine A6 rfl rfl rfl rfl rfl ?_
     refine A6 rfl rfl rfl rfl rfl ?_
     refine A1 rfl rfl rfl (AK7 rfl E5 F9 (A0 rfl) (A0 rfl) (by omega) (by rw [hn] at hlc; omega)) ?_
     refine A6 rfl rfl rfl rfl rfl ?_
     refine A6 rfl rfl rfl rfl rfl ?_
     refine A1 rfl rfl rfl (H4 rfl (A0 rfl) (A0 rfl) (by first | omega | (simp only [A5, B1, B5, C1, B0, szR] at *; omega))) ?_
     rw [e28]
     refine A6 rfl rfl rfl rfl rfl ?_
     refine A1 rfl rfl rfl (S5 rfl (A0 rfl) (A0 rfl) (by first | omega | (simp only [A5, B1, B5, C1, B0, szR] at *; omega))) ?_
     rw [e39, Int.toNat_natCast]
     refine AK8 (by' := 24) (j := i) (m := l.length + 1 - i) 0 rfl rfl rfl rfl E5 O3 Tryz.type39 rfl rfl rfl rfl rfl rfl (A0 rfl) (A0 rfl) rfl (by rw [hn]; exact hi) (by omega) (by omega) (by omega) (by omega) ?_
     intro g2 cap2 hcap2
     refine C2 rfl rfl rfl rfl rfl ?_
     refine A4 (A3 (A2 ?_))
     refine A6 rfl rfl rfl rfl rfl ?_
     refine A6 rfl rfl rfl rfl rfl ?_
     refine A1 rfl rfl rfl (X4 rfl E5 F9 (A0 rfl) (A0 rfl) (by first | omega | (simp only [A5, B1, B5, C1, B0, szR] at *; omega)) (by first | omega | (simp only [A5, B1, B5, C1, B0, szR] at *; omega))) ?_
     refine A6 rfl rfl rfl rfl rfl ?_
     rw [Int.toNat_natCast]
     refine o5 (k := i) 0 rfl rfl rfl rfl E5 Tryz.type39 rfl (A0 rfl) (a8 2 rfl (A0 rfl)) rfl (by rw [h1]; omega) (by rw [h1]; omega) hcap2 (by simp) ?_
     refine A4 (A3 ?_)
     refine Q6 8 (by kernel_rfl) (by kernel_rfl) rfl ?_
     refine B4 rfl rfl (C7 rfl (A0 rfl)) ?_
     refine B4 rfl rfl (C7 rfl (A0 rfl)) ?_
     refine B4 rfl rfl (C7 rfl (A0 rfl)) ?_
     refine B4 rfl rfl (H4 rfl (A0 rfl) (A0 rfl) (by first | omega | (simp only [A5, B1, B5, C1, B0, szR] at *; omega))) ?_
     rw [e49]
     refine B4 rfl rfl (X4 rfl E5 F9 (A0 rfl) (A0 rfl) (by first | omega | (simp only [A5, B1, B5, C1, B0, szR] at *; omega)) (by first | omega | (simp only [A5, B1, B5, C1, B0, szR] at *; omega))) ?_
     refine B4 rfl rfl (C7 rfl (A0 rfl)) ?_
     refine B4 rfl rfl (C7 rfl (A0 rfl)) ?_
     refine B4 rfl rfl (X4 rfl E5 F9 (A0 rfl) (A0 rfl) (by first | omega | (simp only [A5, B1, B5, C1, B0, szR] at *; omega)) (by first | omega | (simp only [A5, B1, B5, C1, B0, szR] at *; omega))) ?_
     refine O5 ?_
     simp only [Int.toNat_natCast]
     refine o5 (k := i + 1) 0 rfl rfl rfl rfl E5 Tryz.type39 rfl (A0 rfl) (AR9 1 rfl (A0 rfl)) rfl (by rw [List.length_drop, hn]; omega) (by rw [List.length_drop, hn]; omega) hcap2 (by intro h; have := congrArg List.length h; rw [List.length_drop, hn] at this; simp at this; omega) ?_
     refine A4 (A3 (A2 ?_))
     refine A6 rfl rfl rfl rfl rfl ?_
     refine C2 rfl rfl rfl rfl rfl ?_
     refine A4 ?_
     refine C8 ?_
     exact K0 [0] (slv g2 (i + (l.length + 1 - i)) cap2) (trivial) rfl (by exact congrArg (fun z => [Own.arr _ 39 3 z]) (by first | exact d6 hi (by simp) | exact Z6 (by omega) | (have hil : i = l.length := (by omega); subst hil; simp; done) | (simp; done))) (P3 rfl (D1 rfl (by first | rfl | (rw [hn]))))
    ·intro h31
     have k31 := of_decide_eq_false h31; try simp only [A5] at k31
     refine D5 (A3 (A2 ?_))
     refine A6 rfl rfl rfl rfl rfl ?_
     refine A6 rfl rfl rfl rfl rfl ?_
     refine A6 rfl rfl rfl rfl rfl ?_
     refine A1 rfl rfl rfl (H4 rfl (A0 rfl) (A0 rfl) (by first | omega | (simp only [A5, B1, B5, C1, B0, szR] at *; omega))) ?_
     rw [e28]
     refine A1 rfl rfl rfl (AK7 rfl E5 F9 (A0 rfl) (A0 rfl) (by first | omega | (simp only [A5, B1, B5, C1, B0, szR] at *; omega)) (by first | omega | (simp only [A5, B1, B5, C1, B0, szR] at *; omega))) ?_
     rw [Int.toNat_natCast]
     refine C2 rfl rfl rfl rfl rfl ?_
     refine A4 (A3 (A3 (A2 ?_)))
     refine A6 rfl rfl rfl rfl rfl ?_
     refine A6 rfl rfl rfl rfl rfl ?_
     refine A6 rfl rfl rfl rfl rfl ?_
     refine A6 rfl rfl rfl rfl rfl ?_
     refine A1 rfl rfl rfl (H4 rfl (A0 rfl) (A0 rfl) (by first | omega | (simp only [A5, B1, B5, C1, B0, szR] at *; omega))) ?_
     rw [e49]
     refine A1 rfl rfl rfl (X4 rfl E5 F9 (A0 rfl) (A0 rfl) (by first | omega | (simp only [A5, B1, B5, C1, B0, szR] at *; omega)) (by first | omega | (simp only [A5, B1, B5, C1, B0, szR] at *; omega))) ?_
     rw [Int.toNat_natCast]
     refine A1 rfl rfl rfl (AH0 (tb := 4) 1 0 rfl Tryz.func286 (by kernel_rfl) (by kernel_rfl) (by kernel_rfl) (by kernel_rfl) E5 F9 (A0 rfl) (A0 rfl) rfl rfl rfl (by omega) rfl) ?_
     refine A1 rfl rfl rfl (N1 rfl (A0 rfl)) ?_
     refine A4 ?_
     refine D0 (A0 rfl) ?_ ?_
     ·intro h68
      refine A3 ?_
      refine Q6 8 (by kernel_rfl) (by kernel_rfl) rfl ?_
      refine B4 rfl rfl (C7 rfl (A0 rfl)) ?_
      refine B4 rfl rfl (C7 rfl (A0 rfl)) ?_
      refine B4 rfl rfl (C7 rfl (A0 rfl)) ?_
      refine B4 rfl rfl (H4 rfl (A0 rfl) (A0 rfl) (by first | omega | (simp only [A5, B1, B5, C1, B0, szR] at *; omega))) ?_
      rw [e49]
      refine B4 rfl rfl (X4 rfl E5 F9 (A0 rfl) (A0 rfl) (by first | omega | (simp only [A5, B1, B5, C1, B0, szR] at *; omega)) (by first | omega | (simp only [A5, B1, B5, C1, B0, szR] at *; omega))) ?_
      refine B4 rfl rfl (C7 rfl (A0 rfl)) ?_
      refine B4 rfl rfl (C7 rfl (A0 rfl)) ?_
      refine B4 rfl rfl (X4 rfl E5 F9 (A0 rfl) (A0 rfl) (by first | omega | (simp only [A5, B1, B5, C1, B0, szR] at *; omega)) (by first | omega | (simp only [A5, B1, B5, C1, B0, szR] at *; omega))) ?_
      refine O5 ?_
      simp only [Int.toNat_natCast]
      refine AV7 (k := i) (len := (l.map TTold.cs).length) 0 rfl rfl rfl rfl E5 Tryz.type39 rfl (by rw [hn]; exact A0 rfl) (by rw [hn]; exact A0 rfl) rfl (by omega) (by omega) ?_
      intro j77
      refine A4 (A3 (A2 ?_))
      refine A6 rfl rfl rfl rfl rfl ?_
      refine A6 rfl rfl rfl rfl rfl ?_
      refine A1 rfl rfl rfl (X4 rfl E5 F9 (A0 rfl) (A0 rfl) (by first | omega | (simp only [A5, B1, B5, C1, B0, szR] at *; omega)) (by first | omega | (simp only [A5, B1, B5, C1, B0, szR] at *; omega))) ?_
      refine A6 rfl rfl rfl rfl rfl ?_
      rw [Int.toNat_natCast]
      refine o5 (k := i) 0 rfl rfl rfl rfl E5 Tryz.type39 rfl (A0 rfl) (a8 1 rfl (A0 rfl)) rfl (by rw [h1, hn]; omega) (by rw [h1]; omega) (by omega) (by simp) ?_
      refine A4 (A3 (A2 ?_))
      refine A6 rfl rfl rfl rfl rfl ?_
      refine C2 rfl rfl rfl rfl rfl ?_
      refine A4 ?_
      refine C8 ?_
      exact K0 [0] (slv g ((l.map TTold.cs).length + 1) cap) (trivial) rfl (by exact congrArg (fun z => [Own.arr _ 39 3 z]) (by first | exact d6 hi (by simp) | exact Z6 (by omega) | (have hil : i = l.length := (by omega); subst hil; simp; done) | (simp; done))) (P3 rfl (D1 rfl (by first | rfl | (rw [hn]))))
     ·intro h68
      cases h68
theorem AJ1 (v : Value) (l : List THeld) (i : Nat) (hi : i < l.length) (hl : l.length ≤ 4194304) : GSpec Tryz.prog 256 [AV.is v, AV.int i, AV.int ((i : Int) + 1)] [.arr v 45 5 (l.map THeld.cs)] (fun _ : Value => True) (fun v => [.arr v 45 5 ((l.eraseIdx i).map THeld.cs)]) (fun v => AV.is v) := by
 have hn : (l.map THeld.cs).length = l.length := A5 _
 refine J3 Tryz.func256 rfl Tryz.ntmps256 rfl ?_
 refine i7 0 rfl ?_ ?_
 ·intro hv hes; subst hv
  have h0 : l.length = 0 := (by rw [← hn, hes]; rfl); omega
 ·intro g cap hv hlc hcm; subst hv
  refine A3 (A2 ?_)
  refine A1 rfl rfl rfl (C3 rfl M6) ?_
  refine A4 (A3 (A2 ?_))
  refine A6 rfl rfl rfl rfl rfl ?_
  refine A6 rfl rfl rfl rfl rfl ?_
  refine A6 rfl rfl rfl rfl rfl ?_
  refine A6 rfl rfl rfl rfl rfl ?_
  refine A1 rfl rfl rfl (m4 rfl C9 (A0 rfl)) ?_
  refine A1 rfl rfl rfl (w_v3 rfl C9 D4 (A0 rfl) (A0 rfl) (A0 rfl) (A0 rfl) (by omega) (by omega) (by omega) (by omega)) ?_
  refine A4 (A3 (A3 (A2 ?_)))
  refine A6 rfl rfl rfl rfl rfl ?_
  refine A6 rfl rfl rfl rfl rfl ?_
  refine A1 rfl rfl rfl (N3 rfl (A0 rfl) (A0 rfl)) ?_
  refine A4 ?_
  refine D0 (A0 rfl) ?_ ?_
  ·intro h16
   have k16 := M1 h16; try simp only [A5] at k16
   omega
  ·intro h16
   have k16 := M0 h16; try simp only [A5] at k16
   refine D5 (A3 (A2 ?_))
   refine A6 rfl rfl rfl rfl rfl ?_
   refine A1 rfl rfl rfl (m4 rfl C9 (A0 rfl)) ?_
   refine C2 rfl rfl rfl rfl rfl ?_
   refine A4 (A3 ?_)
   refine Q6 6 (by kernel_rfl) (by kernel_rfl) rfl ?_
   refine B4 rfl rfl (C7 rfl (A0 rfl)) ?_
   refine B4 rfl rfl (C7 rfl (A0 rfl)) ?_
   refine B4 rfl rfl (AK7 rfl C9 D4 (A0 rfl) (A0 rfl) (by omega) (by omega)) ?_
   refine B4 rfl rfl (C7 rfl (A0 rfl)) ?_
   refine B4 rfl rfl (C7 rfl (A0 rfl)) ?_
   refine B4 rfl rfl (X4 rfl C9 D4 (A0 rfl) (A0 rfl) (by omega) (by omega)) ?_
   refine O5 ?_
   rw [show ((i : Int) + 1).toNat = i + 1 by omega, Int.toNat_natCast]
   refine Az1 (k := i) (j := i + 1) 0 rfl rfl rfl rfl C9 Tryz.type45 rfl (A0 rfl) (A0 rfl) rfl (by omega) (by omega) ?_
   refine C2 rfl rfl rfl rfl rfl ?_
   refine A4 (A3 (A2 ?_))
   refine A6 rfl rfl rfl rfl rfl ?_
   refine A6 rfl rfl rfl rfl rfl ?_
   refine A1 rfl rfl rfl (m4 rfl C9 (A0 rfl)) ?_
   refine A6 rfl rfl rfl rfl rfl ?_
   refine A1 rfl rfl rfl (w_vlohi rfl C9 D4 (A0 rfl) (A0 rfl) (A0 rfl) (by omega) (by omega) (by omega)) ?_
   simp only [Int.toNat_natCast]
   refine Az2 0 rfl rfl rfl C9 Tryz.zeroValue45 rfl rfl rfl (A0 rfl) rfl (by omega) (by omega) (by omega) ?_
   refine A4 (A3 (A2 ?_))
   refine A6 rfl rfl rfl rfl rfl ?_
   refine C2 rfl rfl rfl rfl rfl ?_
   refine A4 ?_
   refine C8 ?_
   exact K0 [0] (slv g (i + ((l.map THeld.cs).length - (i + 1))) cap) (trivial) rfl (by exact congrArg (fun z => [Own.arr _ 45 5 z]) (by simp [List.eraseIdx_eq_take_drop_succ, List.map_take, List.map_drop])) (P3 rfl (D1 rfl (by first | rfl | (refine congrArg AV.bool ?_; simp_all; done))))
end Go.Proofs.YtnlhbdkcgaeimaaGreat

set_option linter.unusedVariables false
set_option linter.unusedSimpArgs false
set_option maxRecDepth 100000
namespace Go.Proofs.YtnlhbdkcgaeimaaGreat
open Go Go.AV Go.M
attribute [local irreducible] OpW OpA OpS AWP FSpec ESpec RetOk RvDen Le Ev GuardIs
theorem m9 (t : Int) : FSpec Tryz.prog 134 [AV.int t] (AV.bool (isTime t)) := by
 refine F3 Tryz.func134 rfl Tryz.ntmps134 rfl ?_
 refine A3 (A2 ?_)
 refine A1 rfl rfl rfl (C3 rfl F5) ?_
 refine A4 (A3 (A2 ?_))
 refine A6 rfl rfl rfl rfl rfl ?_
 refine A1 rfl rfl rfl (F1 rfl Tryz.call94 rfl (j0 _ _ _) (A7 (A0 rfl) (A7 C6 (A7 C6 D2)))) ?_
 refine C2 rfl rfl rfl rfl rfl ?_
 refine A4 ?_
 refine C8 ?_
 exact I2 rfl (D1 rfl (by first | rfl | (refine congrArg AV.bool ?_; simp_all; done)))
theorem AM5 (s : Str) (g : Bool) (hs : s.length ≤ 4611686018427387904) : FSpec Tryz.prog 242 [AV.str s, AV.bool g] (AV.bool (isStored s g)) := by
 refine F3 Tryz.func242 rfl Tryz.ntmps242 rfl ?_
 refine A3 (A2 ?_)
 refine A1 rfl rfl rfl (C3 rfl F5) ?_
 refine A4 (A3 (A2 ?_))
 refine A6 rfl rfl rfl rfl rfl ?_
 refine A1 rfl rfl rfl (F1 rfl Tryz.call277 rfl (An0 _ (by omega)) (A7 (A0 rfl) D2)) ?_
 refine A6 rfl rfl rfl rfl rfl ?_
 refine B7 rfl rfl (B9 rfl rfl rfl) (fun hc => C7 rfl (A0 rfl)) ?_
 refine B7 rfl rfl (B9 rfl rfl rfl) (fun hc => C7 rfl (A9 rfl hc)) ?_
 refine B7 rfl rfl (F8 rfl rfl rfl) (fun hc => C7 rfl (A0 rfl)) ?_
 refine B7 rfl rfl (F8 rfl rfl rfl) (fun hc => AE1 rfl (A9 rfl hc) (T5 (l := []) rfl)) ?_
 refine B7 rfl rfl (B9 rfl rfl rfl) (fun hc => H8 rfl (A9 rfl hc) (T3 rfl hc)) ?_
 refine B7 rfl rfl (B9 rfl rfl rfl) (fun hc => N1 rfl (A9 rfl hc)) ?_
 refine A1 rfl rfl rfl (H8 rfl (A0 rfl) (G2 rfl)) ?_
 refine C2 rfl rfl rfl rfl rfl ?_
 refine A4 ?_
 refine C8 ?_
 exact I2 rfl (D1 rfl (by first | rfl | (refine congrArg AV.bool ?_; simp_all; done)))
theorem Aw5 (s : Str) (hs : s.length ≤ 4611686018427387904) : FSpec Tryz.prog 276 [AV.str s] (AV.bool (l3Val s)) := by
 refine F3 Tryz.func276 rfl Tryz.ntmps276 rfl ?_
 refine A3 (A2 ?_)
 refine A1 rfl rfl rfl (C3 rfl F5) ?_
 refine A4 (A3 (A2 ?_))
 refine A6 rfl rfl rfl rfl rfl ?_
 refine A1 rfl rfl rfl (AE2 rfl O2 (A0 rfl)) ?_
 refine A1 rfl rfl rfl (W0 rfl (A0 rfl) C6) ?_
 refine A6 rfl rfl rfl rfl rfl ?_
 refine B7 rfl rfl (B9 rfl rfl rfl) (fun hc => C7 rfl (A0 rfl)) ?_
 refine B7 rfl rfl (B9 rfl rfl rfl) (fun hc => F1 rfl Tryz.call217 rfl (AP7 _ _ (by omega) (by decide)) (A7 (A9 rfl hc) (A7 (T5 (l := [46, 45, 44, 95]) rfl) D2))) ?_
 refine A1 rfl rfl rfl (H8 rfl (A0 rfl) (G2 rfl)) ?_
 refine C2 rfl rfl rfl rfl rfl ?_
 refine A4 ?_
 refine C8 ?_
 exact I2 rfl (D1 rfl (by first | rfl | (refine congrArg AV.bool ?_; simp_all; done)))
theorem AP9 (k s : Str) (g : Bool) (hk : k.length ≤ 4611686018427387904) (hs : s.length ≤ 4611686018427387904) : FSpec Tryz.prog 235 [AV.str k, AV.str s, AV.bool g] (AV.bool (l3Write k s g)) := by
 refine F3 Tryz.func235 rfl Tryz.ntmps235 rfl ?_
 refine A3 (A2 ?_)
 refine A1 rfl rfl rfl (C3 rfl F5) ?_
 refine A4 (A3 (A2 ?_))
 refine A6 rfl rfl rfl rfl rfl ?_
 refine A1 rfl rfl rfl (F1 rfl Tryz.call119 rfl (AL5 _ (by omega)) (A7 (A0 rfl) D2)) ?_
 refine A6 rfl rfl rfl rfl rfl ?_
 refine B7 rfl rfl (B9 rfl rfl rfl) (fun hc => C7 rfl (A0 rfl)) ?_
 refine B7 rfl rfl (B9 rfl rfl rfl) (fun hc => F1 rfl Tryz.call276 rfl (Aw5 _ (by omega)) (A7 (A9 rfl hc) D2)) ?_
 refine A1 rfl rfl rfl (H8 rfl (A0 rfl) (G2 rfl)) ?_
 refine A6 rfl rfl rfl rfl rfl ?_
 refine B7 rfl rfl (B9 rfl rfl rfl) (fun hc => C7 rfl (A0 rfl)) ?_
 refine B7 rfl rfl (B9 rfl rfl rfl) (fun hc => N1 rfl (A9 rfl hc)) ?_
 refine B7 rfl rfl (B9 rfl rfl rfl) (fun hc => C7 rfl (A9 rfl hc)) ?_
 refine B7 rfl rfl (R6 rfl rfl rfl) (fun hc => C7 rfl (A0 rfl)) ?_
 refine B7 rfl rfl (R6 rfl rfl rfl) (fun hc => s4 rfl (A9 rfl hc) (T5 (l := []) rfl)) ?_
 refine B7 rfl rfl (B9 rfl rfl rfl) (fun hc => R4 rfl (A9 rfl hc) (T3 rfl hc)) ?_
 refine A1 rfl rfl rfl (H8 rfl (A0 rfl) (G2 rfl)) ?_
 refine C2 rfl rfl rfl rfl rfl ?_
 refine A4 ?_
 refine C8 ?_
 exact I2 rfl (D1 rfl (by first | rfl | (refine congrArg AV.bool ?_; simp_all; done)))
theorem AM6 (t : Int) : FSpec Tryz.prog 251 [AV.int t] (AV.bool false) := by
 refine F3 Tryz.func251 rfl Tryz.ntmps251 rfl ?_
 refine A3 (A2 ?_)
 refine A1 rfl rfl rfl (C3 rfl F5) ?_
 refine A4 (A3 (A2 ?_))
 refine A6 rfl rfl rfl rfl rfl ?_
 refine A6 rfl rfl rfl rfl rfl ?_
 refine A1 rfl rfl rfl (Z7 rfl (A0 rfl) (A0 rfl)) ?_
 refine C2 rfl rfl rfl rfl rfl ?_
 refine A4 ?_
 refine C8 ?_
 exact I2 rfl (D1 rfl (by exact congrArg AV.bool (by simp)))
theorem AM7 (t : Str) : FSpec Tryz.prog 282 [AV.str t] (AV.bool false) := by
 refine F3 Tryz.func282 rfl Tryz.ntmps282 rfl ?_
 refine A3 (A2 ?_)
 refine A1 rfl rfl rfl (C3 rfl F5) ?_
 refine A4 (A3 (A2 ?_))
 refine A6 rfl rfl rfl rfl rfl ?_
 refine A6 rfl rfl rfl rfl rfl ?_
 refine A1 rfl rfl rfl (AE1 rfl (A0 rfl) (A0 rfl)) ?_
 refine C2 rfl rfl rfl rfl rfl ?_
 refine A4 ?_
 refine C8 ?_
 exact I2 rfl (D1 rfl (by exact congrArg AV.bool (by simp)))
theorem AT8 (x y : Int) : FSpec Tryz.prog 192 [AV.int x, AV.int y] (AV.int (cmpInt x y)) := by
 refine F3 Tryz.func192 rfl Tryz.ntmps192 rfl ?_
 refine A3 (A2 ?_)
 refine A1 rfl rfl rfl (C3 rfl C6) ?_
 refine A4 (A3 (A2 ?_))
 refine A6 rfl rfl rfl rfl rfl ?_
 refine A1 rfl rfl rfl (F1 rfl Tryz.call251 rfl (AM6 _) (A7 (A0 rfl) D2)) ?_
 refine C2 rfl rfl rfl rfl rfl ?_
 refine A4 (A3 (A2 ?_))
 refine A6 rfl rfl rfl rfl rfl ?_
 refine A1 rfl rfl rfl (F1 rfl Tryz.call251 rfl (AM6 _) (A7 (A0 rfl) D2)) ?_
 refine C2 rfl rfl rfl rfl rfl ?_
 refine A4 (A3 (A3 (A2 ?_)))
 refine A6 rfl rfl rfl rfl rfl ?_
 refine A4 ?_
 refine D0 (A0 rfl) ?_ ?_
 ·intro h11
  cases h11
 ·intro h11
  refine D5 (A3 (A3 (A2 ?_)))
  refine A6 rfl rfl rfl rfl rfl ?_
  refine A4 ?_
  refine D0 (A0 rfl) ?_ ?_
  ·intro h13
   cases h13
  ·intro h13
   refine D5 (A3 (A3 (A2 ?_)))
   refine A6 rfl rfl rfl rfl rfl ?_
   refine A6 rfl rfl rfl rfl rfl ?_
   refine A1 rfl rfl rfl (M2 rfl (A0 rfl) (A0 rfl)) ?_
   refine A4 ?_
   refine D0 (A0 rfl) ?_ ?_
   ·intro h16
    have k16 := of_decide_eq_true h16; try simp only [A5] at k16
    refine A3 (A2 ?_)
    refine A1 rfl rfl rfl (C3 rfl C6) ?_
    refine A4 ?_
    refine C8 ?_
    exact I2 rfl (D1 rfl (by exact congrArg AV.int (by unfold cmpInt; (repeat' split) <;> omega)))
   ·intro h16
    have k16 := of_decide_eq_false h16; try simp only [A5] at k16
    refine D5 (A3 (A3 (A2 ?_)))
    refine A6 rfl rfl rfl rfl rfl ?_
    refine A6 rfl rfl rfl rfl rfl ?_
    refine A1 rfl rfl rfl (P4 rfl (A0 rfl) (A0 rfl)) ?_
    refine A4 ?_
    refine D0 (A0 rfl) ?_ ?_
    ·intro h19
     have k19 := of_decide_eq_true h19; try simp only [A5] at k19
     refine A3 (A2 ?_)
     refine A1 rfl rfl rfl (C3 rfl C6) ?_
     refine A4 ?_
     refine C8 ?_
     exact I2 rfl (D1 rfl (by exact congrArg AV.int (by unfold cmpInt; (repeat' split) <;> omega)))
    ·intro h19
     have k19 := of_decide_eq_false h19; try simp only [A5] at k19
     refine D5 (A3 (A2 ?_))
     refine A1 rfl rfl rfl (C3 rfl C6) ?_
     refine A4 ?_
     refine C8 ?_
     exact I2 rfl (D1 rfl (by exact congrArg AV.int (by unfold cmpInt; (repeat' split) <;> omega)))
theorem AT9 (x y : Str) : FSpec Tryz.prog 250 [AV.str x, AV.str y] (AV.int (cmpStr x y)) := by
 refine F3 Tryz.func250 rfl Tryz.ntmps250 rfl ?_
 refine A3 (A2 ?_)
 refine A1 rfl rfl rfl (C3 rfl C6) ?_
 refine A4 (A3 (A2 ?_))
 refine A6 rfl rfl rfl rfl rfl ?_
 refine A1 rfl rfl rfl (F1 rfl Tryz.call282 rfl (AM7 _) (A7 (A0 rfl) D2)) ?_
 refine C2 rfl rfl rfl rfl rfl ?_
 refine A4 (A3 (A2 ?_))
 refine A6 rfl rfl rfl rfl rfl ?_
 refine A1 rfl rfl rfl (F1 rfl Tryz.call282 rfl (AM7 _) (A7 (A0 rfl) D2)) ?_
 refine C2 rfl rfl rfl rfl rfl ?_
 refine A4 (A3 (A3 (A2 ?_)))
 refine A6 rfl rfl rfl rfl rfl ?_
 refine A4 ?_
 refine D0 (A0 rfl) ?_ ?_
 ·intro h11
  cases h11
 ·intro h11
  refine D5 (A3 (A3 (A2 ?_)))
  refine A6 rfl rfl rfl rfl rfl ?_
  refine A4 ?_
  refine D0 (A0 rfl) ?_ ?_
  ·intro h13
   cases h13
  ·intro h13
   refine D5 (A3 (A3 (A2 ?_)))
   refine A6 rfl rfl rfl rfl rfl ?_
   refine A6 rfl rfl rfl rfl rfl ?_
   refine A1 rfl rfl rfl (w_slss rfl (A0 rfl) (A0 rfl)) ?_
   refine A4 ?_
   refine D0 (A0 rfl) ?_ ?_
   ·intro h16
    refine A3 (A2 ?_)
    refine A1 rfl rfl rfl (C3 rfl C6) ?_
    refine A4 ?_
    refine C8 ?_
    exact I2 rfl (D1 rfl (by exact congrArg AV.int (by have := T2 y x; unfold cmpStr; simp_all)))
   ·intro h16
    refine D5 (A3 (A3 (A2 ?_)))
    refine A6 rfl rfl rfl rfl rfl ?_
    refine A6 rfl rfl rfl rfl rfl ?_
    refine A1 rfl rfl rfl (Ak3 rfl (A0 rfl) (A0 rfl)) ?_
    refine A4 ?_
    refine D0 (A0 rfl) ?_ ?_
    ·intro h19
     refine A3 (A2 ?_)
     refine A1 rfl rfl rfl (C3 rfl C6) ?_
     refine A4 ?_
     refine C8 ?_
     exact I2 rfl (D1 rfl (by exact congrArg AV.int (by have := T2 y x; unfold cmpStr; simp_all)))
    ·intro h19
     refine D5 (A3 (A2 ?_))
     refine A1 rfl rfl rfl (C3 rfl C6) ?_
     refine A4 ?_
     refine C8 ?_
     exact I2 rfl (D1 rfl (by exact congrArg AV.int (by have := T2 y x; unfold cmpStr; simp_all)))
end Go.Proofs.YtnlhbdkcgaeimaaGreat

set_option linter.unusedVariables false
set_option linter.unusedSimpArgs false
set_option maxRecDepth 100000
namespace Go.Proofs.YtnlhbdkcgaeimaaGreat
open Go Go.AV Go.M
attribute [local irreducible] OpW OpA OpS AWP FSpec ESpec RetOk RvDen Le Ev GuardIs
end Go.Proofs.YtnlhbdkcgaeimaaGreat

set_option linter.unusedVariables false
set_option linter.unusedSimpArgs false
set_option maxRecDepth 100000
namespace Go.Proofs.YtnlhbdkcgaeimaaGreat
open Go Go.AV Go.M
attribute [local irreducible] OpW OpA OpS AWP FSpec ESpec RetOk RvDen Le Ev GuardIs
theorem Aw6 {l : List TWrite} (h : sizeL TWrite.size l ≤ 4194304) : ∀ k ∈ wKeys l, k.length ≤ 4611686018427387904 := fun k hk => by
  obtain ⟨w, hw, rfl⟩ := List.mem_map.1 hk
  have := AA6 (f := TWrite.size) hw
  have h2 : w.size = w.Key.length + w.Val.length := rfl
  omega
theorem u9 (l : List Str) (hs : ∀ k ∈ l, k.length ≤ 4611686018427387904) : FSpec Tryz.prog 155 [strs l] (AV.bool (areRising l)) := by
 refine F3 Tryz.func155 rfl Tryz.ntmps155 rfl ?_
 refine Q8 (t := 0) rfl fun hl => ?_
 try simp only [A5] at hl
 refine A3 (A2 ?_)
 refine A1 rfl rfl rfl (C3 rfl F5) ?_
 refine A4 (A3 (A3 (A2 ?_)))
 refine A6 rfl rfl rfl rfl rfl ?_
 refine A1 rfl rfl rfl (G4 rfl E6 (A0 rfl)) ?_
 refine A1 rfl rfl rfl (C7 rfl C6) ?_
 refine A4 (E1 ?_)
 refine K1 [(0, _), (5, _), (6, _)] _ (fun (i : Nat) => i ≤ l.length ∧ areRising l = ((l.drop i).all goodKey && adj Op.bytesLess (l.drop (i - 1)))) (fun (i : Nat) => []) (fun (i : Nat) => [(7, AV.int i)]) (fun (i : Nat) => l.length - i) (0) ?_ (J9 ⟨rfl, rfl, rfl, rfl, trivial⟩) ?_
 ·exact ⟨Nat.zero_le _, rfl⟩
 intro i hinv
 refine A3 (A2 ?_)
 refine A1 rfl rfl rfl (M2 rfl (A0 rfl) (A0 rfl)) ?_
 refine A4 (A3 ?_)
 refine D0 (A0 rfl) ?_ ?_
 ·intro h8
  have k8 := of_decide_eq_true h8; try simp only [A5] at k8
  have hlt : i < l.length := by omega
  obtain ⟨x, hx⟩ := get_some hlt
  obtain ⟨y, hy⟩ := get_some (show i - 1 < l.length by omega)
  have hsx := hs x (H2 hx)
  refine D5 (A3 (E1 (A3 (A2 ?_))))
  refine A6 rfl rfl rfl rfl rfl ?_
  refine A1 rfl rfl rfl (J4 rfl E6 G0 (A0 rfl) (A0 rfl) hx (by first | omega | (simp only [A5, B1, B5, C1, B0, szR] at *; omega))) ?_
  refine A1 rfl rfl rfl (N4 rfl (A0 rfl) H3 rfl) ?_
  refine C2 rfl rfl rfl rfl rfl ?_
  refine C2 rfl rfl rfl rfl rfl ?_
  refine A4 (A3 (A2 ?_))
  refine A6 rfl rfl rfl rfl rfl ?_
  refine A1 rfl rfl rfl (F1 rfl Tryz.call117 rfl (Am9 _ (by omega)) (A7 (A0 rfl) D2)) ?_
  refine A1 rfl rfl rfl (N1 rfl (A0 rfl)) ?_
  refine A6 rfl rfl rfl rfl rfl ?_
  refine B7 rfl rfl (D6 rfl rfl rfl) (fun hc => C7 rfl (A0 rfl)) ?_
  refine B7 rfl rfl (D6 rfl rfl rfl) (fun hc => P4 rfl (A9 rfl hc) C6) ?_
  refine B7 rfl rfl (D6 rfl rfl rfl) (fun hc => C7 rfl (A9 rfl hc)) ?_
  refine B7 rfl rfl (F8 rfl rfl rfl) (fun hc => C7 rfl (A0 rfl)) ?_
  refine B7 rfl rfl (F8 rfl rfl rfl) (fun hc => C7 rfl (A0 rfl)) ?_
  refine B7 rfl rfl (F8 rfl rfl rfl) (fun hc => C7 rfl (A0 rfl)) ?_
  refine B7 rfl rfl (F8 rfl rfl rfl) (fun hc => S5 rfl (A9 rfl hc) C6 (by first | omega | ((try simp only [A5, B1, B5, C1, B0, szR] at *); omega) | (have hc2 := hc; simp only [Bool.and_eq_true, Bool.or_eq_true, Bool.or_eq_false_iff, Bool.and_eq_false_iff, Bool.not_eq_true', Bool.not_eq_false', decide_eq_true_eq, decide_eq_false_iff_not, beq_iff_eq, bne_iff_ne, A5, B1] at hc2; omega))) ?_
  refine B7 rfl rfl (F8 rfl rfl rfl) (fun hc => J4 rfl E6 G0 (A9 rfl hc) (A9 rfl hc) hy (by first | omega | ((try simp only [A5, B1, B5, C1, B0, szR] at *); omega) | (have hc2 := hc; simp only [Bool.and_eq_true, Bool.or_eq_true, Bool.or_eq_false_iff, Bool.and_eq_false_iff, Bool.not_eq_true', Bool.not_eq_false', decide_eq_true_eq, decide_eq_false_iff_not, beq_iff_eq, bne_iff_ne, A5, B1] at hc2; omega))) ?_
  refine B7 rfl rfl (F8 rfl rfl rfl) (fun hc => N4 rfl (A9 rfl hc) H3 rfl) ?_
  refine B7 rfl rfl (F8 rfl rfl rfl) (fun hc => w_sleq rfl (A9 rfl hc) (A9 rfl hc)) ?_
  refine B7 rfl rfl (D6 rfl rfl rfl) (fun hc => H8 rfl (A9 rfl hc) (T3 rfl hc)) ?_
  refine A1 rfl rfl rfl (R4 rfl (A0 rfl) (G2 rfl)) ?_
  refine A4 ?_
  refine D0 (A0 rfl) ?_ ?_
  ·intro h27
   have hfin : areRising l = false := by rw [hinv.2]; cases hg : goodKey x with | false => (rw [r3 hx hg]; simp) | true => (have hb : 0 < i ∧ Op.bytesLess y x = false := (by have := T2 y x; simp_all; try grind); rw [t8 hx hy hb.1 hb.2]; simp)
   refine A3 (A2 ?_)
   refine A1 rfl rfl rfl (C3 rfl F5) ?_
   refine A4 ?_
   refine C8 ?_
   exact I2 rfl (D1 rfl (by first | exact congrArg AV.bool hfin.symm | exact congrArg AV.bool (by rw [hinv.2, f9 hge, f8 hge]; rfl)))
  ·intro h27
   have hg : goodKey x = true ∧ (0 < i → Op.bytesLess y x = true) := by have := T2 y x; simp_all
   refine D5 (A2 ?_)
   refine A1 rfl rfl rfl (H4 rfl (A0 rfl) C6 (by first | omega | (simp only [A5, B1, B5, C1, B0, szR] at *; omega))) ?_
   refine A6 rfl rfl rfl rfl rfl ?_
   refine A4 ?_
   refine M3 i (i + 1) ?_ ?_ (J9 ⟨rfl, rfl, rfl, rfl, trivial⟩)
   ·exact ⟨by omega, by rw [hinv.2, u3 hx hg.1, t7 hx hy hg.2]⟩
   ·omega
 ·intro h8
  have k8 := of_decide_eq_false h8; try simp only [A5] at k8
  have hge : l.length ≤ i := by omega
  refine I4 ?_
  refine A3 (A2 ?_)
  refine A1 rfl rfl rfl (C3 rfl F5) ?_
  refine A4 ?_
  refine C8 ?_
  exact I2 rfl (D1 rfl (by first | exact congrArg AV.bool hfin.symm | exact congrArg AV.bool (by rw [hinv.2, f9 hge, f8 hge]; rfl)))
theorem Ac3 (l : List TWrite) (hs : sizeL TWrite.size l ≤ 4194304) : FSpec Tryz.prog 240 [AV.list 3 (l.map TWrite.cs)] (strs (wKeys l)) := by
 have hl : l.length ≤ 4194304 := Nat.le_trans O8 hs
 refine F3 Tryz.func240 rfl Tryz.ntmps240 rfl ?_
 refine A3 (A2 ?_)
 refine A1 rfl rfl rfl (C3 rfl (As7 (sz := 1))) ?_
 refine A4 (A3 (A2 ?_))
 refine U2 rfl rfl rfl rfl E6 G0 ?_
 intro v6
 refine C2 rfl rfl rfl rfl rfl ?_
 refine A4 (A3 (A3 (A2 ?_)))
 refine A6 rfl rfl rfl rfl rfl ?_
 refine A1 rfl rfl rfl (G4 rfl G1 (A0 rfl)) ?_
 refine A1 rfl rfl rfl (C7 rfl C6) ?_
 refine A4 (E1 ?_)
 refine T8 [(2, _), (7, _), (8, _)] _ (fun (i : Nat) (v : Value) => i ≤ l.length) (fun (i : Nat) (v : Value) => [.arr v 9 1 ((l.take i).map fun w => [AV.str w.Key])]) (fun (i : Nat) (v : Value) => [(3, AV.is v), (9, AV.int i)]) (fun (i : Nat) (v : Value) => l.length - i) (0) (v6) ?_ (U7 (by rfl) ⟨rfl, rfl, rfl, rfl, rfl, trivial⟩) ?_
 ·exact Nat.zero_le _
 intro i v hinv
 refine A3 (A2 ?_)
 refine A1 rfl rfl rfl (M2 rfl (A0 rfl) (A0 rfl)) ?_
 refine A4 (A3 ?_)
 refine D0 (A0 rfl) ?_ ?_
 ·intro h10
  have k10 := of_decide_eq_true h10; try simp only [A5] at k10
  have hlt : i < l.length := by omega
  obtain ⟨x, hx⟩ := get_some hlt
  refine D5 (A3 (E1 (A3 (A2 ?_))))
  refine A1 rfl rfl rfl (J4 rfl G1 I6 (A0 rfl) (A0 rfl) hx (by first | omega | (simp only [A5, B1, B5, C1, B0, szR] at *; omega))) ?_
  refine A1 rfl rfl rfl (K7 rfl (A0 rfl) S2 I6) ?_
  refine F4 rfl rfl rfl rfl Tryz.zeroValue77 rfl ?_
  intro b5
  refine D3 0 rfl rfl rfl (A0 rfl) (A0 rfl) (D8 _) rfl I6 rfl ?_
  refine A4 (A2 ?_)
  refine A6 rfl rfl rfl rfl rfl ?_
  refine A1 rfl rfl rfl (B3 0 rfl J8 rfl G0 (A0 rfl) rfl) ?_
  refine A1 rfl rfl rfl (B2 0 rfl (A0 rfl) rfl H3 rfl) ?_
  refine A1 rfl rfl rfl (O1 rfl E6 G0 Tryz.zeroValue9 rfl rfl rfl rfl (E8 (A0 rfl) (Q9 _) I5) rfl rfl) ?_
  refine N6 (by' := 16) 1 rfl rfl rfl rfl E6 Tryz.type9 rfl rfl rfl rfl rfl rfl (A0 rfl) (A0 rfl) rfl (by first | omega | (simp only [A5, B1, B5, C1, B0, szR] at *; omega)) ?_
  intro v17_1
  refine C2 rfl rfl rfl rfl rfl ?_
  refine A4 (A2 ?_)
  refine A1 rfl rfl rfl (H4 rfl (A0 rfl) C6 (by first | omega | (simp only [A5, B1, B5, C1, B0, szR] at *; omega))) ?_
  refine A6 rfl rfl rfl rfl rfl ?_
  refine A4 ?_
  refine S3 i v (i + 1) (v17_1) ?_ ?_ (P1 1 (by exact congrArg (fun z => [Own.arr v17_1 9 1 z]) (W5 (f := fun w : TWrite => [AV.str w.Key]) hx)) ⟨rfl, rfl, rfl, rfl, rfl, trivial⟩)
  ·omega
  ·omega
 ·intro h10
  have k10 := of_decide_eq_false h10; try simp only [A5] at k10
  have hge : l.length ≤ i := by omega
  rw [List.take_of_length_le hge]
  refine I4 ?_
  refine A3 (A2 ?_)
  refine A6 rfl rfl rfl rfl rfl ?_
  refine C2 rfl rfl rfl rfl rfl ?_
  refine A4 ?_
  refine C8 ?_
  refine ret_seal 0 2 rfl rfl ?_
  exact I2 rfl (D1 rfl (by exact congrArg (AV.list 1) (by unfold wKeys; rw [List.map_map]; rfl)))
theorem AW6 (w : TWrite) (h : w.size ≤ 4194304) : FSpec Tryz.prog 241 [AV.agg w.cs] (AV.bool (!isStored w.Val w.Gone)) := by
 unfold TWrite.size at h
 refine F3 Tryz.func241 rfl Tryz.ntmps241 rfl ?_
 refine A3 (A2 ?_)
 refine M7 rfl rfl rfl rfl (A0 rfl) ?_
 intro b1
 refine A1 rfl rfl rfl (C3 rfl F5) ?_
 refine A4 (A3 (A2 ?_))
 refine A1 rfl rfl rfl (B3 1 rfl J8 rfl G0 (A0 rfl) rfl) ?_
 refine A1 rfl rfl rfl (B2 0 rfl (A0 rfl) rfl H3 rfl) ?_
 refine A1 rfl rfl rfl (B3 2 rfl J8 rfl J7 (A0 rfl) rfl) ?_
 refine A1 rfl rfl rfl (B2 0 rfl (A0 rfl) rfl K3 rfl) ?_
 refine A1 rfl rfl rfl (F1 rfl Tryz.call242 rfl (AM5 _ _ (by omega)) (A7 (A0 rfl) (A7 (A0 rfl) D2))) ?_
 refine A1 rfl rfl rfl (N1 rfl (A0 rfl)) ?_
 refine C2 rfl rfl rfl rfl rfl ?_
 refine A4 ?_
 refine C8 ?_
 exact I2 rfl (D1 rfl (by first | rfl | (refine congrArg AV.bool ?_; simp_all; done)))
theorem AZ1 (l : List TWrite) (hs : sizeL TWrite.size l ≤ 4194304) : FSpec Tryz.prog 177 [AV.list 3 (l.map TWrite.cs)] (AV.bool (goodWrites l)) := by
 have hm : ∀ x ∈ l, x.size ≤ 4194304 := fun x hx => Nat.le_trans (AA6 hx) hs
 refine F3 Tryz.func177 rfl Tryz.ntmps177 rfl ?_
 refine A3 (A2 ?_)
 refine A1 rfl rfl rfl (C3 rfl F5) ?_
 refine A4 (A3 (A2 ?_))
 refine A6 rfl rfl rfl rfl rfl ?_
 refine A1 rfl rfl rfl (G4 rfl G1 (A0 rfl)) ?_
 refine A1 rfl rfl rfl (W0 rfl (A0 rfl) C6) ?_
 refine A6 rfl rfl rfl rfl rfl ?_
 refine B7 rfl rfl (B9 rfl rfl rfl) (fun hc => C7 rfl (A0 rfl)) ?_
 refine B7 rfl rfl (B9 rfl rfl rfl) (fun hc => F1 rfl Tryz.call240 rfl (Ac3 _ (by assumption)) (A7 (A9 rfl hc) D2)) ?_
 refine B7 rfl rfl (B9 rfl rfl rfl) (fun hc => F1 rfl Tryz.call155 rfl (u9 _ (by first | assumption | exact Aw6 (by assumption))) (A7 (A9 rfl hc) D2)) ?_
 refine A1 rfl rfl rfl (H8 rfl (A0 rfl) (G2 rfl)) ?_
 refine A6 rfl rfl rfl rfl rfl ?_
 refine B7 rfl rfl (B9 rfl rfl rfl) (fun hc => C7 rfl (A0 rfl)) ?_
 refine B7 rfl rfl (B9 rfl rfl rfl) (fun hc => F1 rfl Tryz.call186 rfl (j3 _ _ _ (by first | (intros; trivial) | assumption | (intros; first | trivial | (simp_all; done)))) (A7 (A9 rfl hc) (A7 (At0 Tryz.call241 (fun w h => AW6 w h)) D2))) ?_
 refine B7 rfl rfl (B9 rfl rfl rfl) (fun hc => N1 rfl (A9 rfl hc)) ?_
 refine A1 rfl rfl rfl (H8 rfl (A0 rfl) (G2 rfl)) ?_
 refine C2 rfl rfl rfl rfl rfl ?_
 refine A4 ?_
 refine C8 ?_
 exact I2 rfl (D1 rfl (by exact congrArg AV.bool (by unfold goodWrites; simp only [A5])))
theorem Ai3 (l : List TWrite) (hs : sizeL TWrite.size l ≤ 1048576) : FSpec Tryz.prog 166 [AV.list 3 (l.map TWrite.cs)] (AV.bool (l3Writes l)) := by
 refine F3 Tryz.func166 rfl Tryz.ntmps166 rfl ?_
 refine Q8 (t := 0) rfl fun hl => ?_
 try simp only [A5] at hl
 refine A3 (A2 ?_)
 refine A1 rfl rfl rfl (C3 rfl F5) ?_
 refine A4 (A3 (A3 (A2 ?_)))
 refine A6 rfl rfl rfl rfl rfl ?_
 refine A1 rfl rfl rfl (G4 rfl G1 (A0 rfl)) ?_
 refine A1 rfl rfl rfl (C7 rfl C6) ?_
 refine A4 (E1 ?_)
 refine K1 [(0, _), (5, _), (6, _)] _ (fun (i : Nat) => i ≤ l.length ∧ (l.all wGood && adj wLess l) = ((l.drop i).all wGood && adj wLess (l.drop (i - 1)))) (fun (i : Nat) => []) (fun (i : Nat) => [(7, AV.int i)]) (fun (i : Nat) => l.length - i) (0) ?_ (J9 ⟨rfl, rfl, rfl, rfl, trivial⟩) ?_
 ·exact ⟨Nat.zero_le _, rfl⟩
 intro i hinv
 refine A3 (A2 ?_)
 refine A1 rfl rfl rfl (M2 rfl (A0 rfl) (A0 rfl)) ?_
 refine A4 (A3 ?_)
 refine D0 (A0 rfl) ?_ ?_
 ·intro h8
  have k8 := of_decide_eq_true h8; try simp only [A5] at k8
  have hlt : i < l.length := by omega
  obtain ⟨x, hx⟩ := get_some hlt
  obtain ⟨y, hy⟩ := get_some (show i - 1 < l.length by omega)
  have hsx : x.size ≤ 1048576 := Nat.le_trans (X9 hx) hs
  unfold TWrite.size at hsx
  refine D5 (A3 (E1 (A3 (A2 ?_))))
  refine A6 rfl rfl rfl rfl rfl ?_
  refine A1 rfl rfl rfl (J4 rfl G1 I6 (A0 rfl) (A0 rfl) hx (by first | omega | (simp only [A5, B1, B5, C1, B0, szR] at *; omega))) ?_
  refine A1 rfl rfl rfl (K7 rfl (A0 rfl) S2 I6) ?_
  refine F4 rfl rfl rfl rfl Tryz.zeroValue77 rfl ?_
  intro b4
  refine C2 rfl rfl rfl rfl rfl ?_
  refine D3 0 rfl rfl rfl (A0 rfl) (A0 rfl) (D8 _) rfl I6 rfl ?_
  refine A4 (A3 ?_)
  refine J5 (by kernel_rfl) (by kernel_rfl) rfl ?_
  refine B4 rfl rfl (B3 0 rfl J8 rfl G0 (A0 rfl) rfl) ?_
  refine B4 rfl rfl (B2 0 rfl (A0 rfl) rfl H3 rfl) ?_
  refine B4 rfl rfl (B3 1 rfl J8 rfl G0 (A0 rfl) rfl) ?_
  refine B4 rfl rfl (B2 0 rfl (A0 rfl) rfl H3 rfl) ?_
  refine B4 rfl rfl (B3 2 rfl J8 rfl J7 (A0 rfl) rfl) ?_
  refine B4 rfl rfl (B2 0 rfl (A0 rfl) rfl K3 rfl) ?_
  refine B4 rfl rfl (F1 rfl Tryz.call235 rfl (AP9 _ _ _ (by omega) (by omega)) (A7 (A0 rfl) (A7 (A0 rfl) (A7 (A0 rfl) D2)))) ?_
  refine B4 rfl rfl (N1 rfl (A0 rfl)) ?_
  refine B4 rfl rfl (C7 rfl (A0 rfl)) ?_
  refine D7 rfl (D6 rfl rfl rfl) (fun hc => C7 rfl (A0 rfl)) ?_
  refine D7 rfl (D6 rfl rfl rfl) (fun hc => P4 rfl (A9 rfl hc) C6) ?_
  refine D7 rfl (D6 rfl rfl rfl) (fun hc => C7 rfl (A9 rfl hc)) ?_
  refine D7 rfl (F8 rfl rfl rfl) (fun hc => C7 rfl (A0 rfl)) ?_
  refine D7 rfl (F8 rfl rfl rfl) (fun hc => C7 rfl (A0 rfl)) ?_
  refine D7 rfl (F8 rfl rfl rfl) (fun hc => S5 rfl (A9 rfl hc) C6 (by first | omega | ((try simp only [A5, B1, B5, C1, B0, szR] at *); omega) | (have hc2 := hc; simp only [Bool.and_eq_true, Bool.or_eq_true, Bool.or_eq_false_iff, Bool.and_eq_false_iff, Bool.not_eq_true', Bool.not_eq_false', decide_eq_true_eq, decide_eq_false_iff_not, beq_iff_eq, bne_iff_ne, A5, B1] at hc2; omega))) ?_
  refine D7 rfl (F8 rfl rfl rfl) (fun hc => J4 rfl G1 I6 (A9 rfl hc) (A9 rfl hc) hy (by first | omega | ((try simp only [A5, B1, B5, C1, B0, szR] at *); omega) | (have hc2 := hc; simp only [Bool.and_eq_true, Bool.or_eq_true, Bool.or_eq_false_iff, Bool.and_eq_false_iff, Bool.not_eq_true', Bool.not_eq_false', decide_eq_true_eq, decide_eq_false_iff_not, beq_iff_eq, bne_iff_ne, A5, B1] at hc2; omega))) ?_
  refine D7 rfl (F8 rfl rfl rfl) (fun hc => V1 rfl J8 rfl G0 (A9 rfl hc) rfl) ?_
  refine D7 rfl (F8 rfl rfl rfl) (fun hc => N4 rfl (A9 rfl hc) H3 rfl) ?_
  refine D7 rfl (F8 rfl rfl rfl) (fun hc => B3 0 rfl J8 rfl G0 (A0 rfl) rfl) ?_
  refine D7 rfl (F8 rfl rfl rfl) (fun hc => B2 0 rfl (A9 rfl hc) rfl H3 rfl) ?_
  refine D7 rfl (F8 rfl rfl rfl) (fun hc => Ak4 rfl (A9 rfl hc) (A9 rfl hc)) ?_
  refine D7 rfl (D6 rfl rfl rfl) (fun hc => H8 rfl (A9 rfl hc) (T3 rfl hc)) ?_
  refine B4 rfl rfl (R4 rfl (A0 rfl) (G2 rfl)) ?_
  refine O5 ?_
  refine D0 (A0 rfl) ?_ ?_
  ·intro h34
   have hfin : l3Writes l = false := by unfold l3Writes; rw [hinv.2]; cases hg : wGood x with | false => (rw [r3 hx hg]; simp) | true => (have hb : 0 < i ∧ wLess y x = false := (by unfold wGood at hg; unfold wLess; simp_all; try grind); rw [t8 hx hy hb.1 hb.2]; simp)
   refine A3 (A2 ?_)
   refine A1 rfl rfl rfl (C3 rfl F5) ?_
   refine A4 ?_
   refine C8 ?_
   exact I2 rfl (D1 rfl (by first | exact congrArg AV.bool hfin.symm | exact congrArg AV.bool (by unfold l3Writes; rw [hinv.2, f9 hge, f8 hge, A5]; simp)))
  ·intro h34
   have hg : wGood x = true ∧ (0 < i → wLess y x = true) := by unfold wGood wLess; simp_all
   refine D5 (A2 ?_)
   refine A1 rfl rfl rfl (H4 rfl (A0 rfl) C6 (by first | omega | (simp only [A5, B1, B5, C1, B0, szR] at *; omega))) ?_
   refine A6 rfl rfl rfl rfl rfl ?_
   refine A4 ?_
   refine M3 i (i + 1) ?_ ?_ (U9 1 ⟨rfl, rfl, rfl, rfl, trivial⟩)
   ·exact ⟨by omega, by rw [hinv.2, u3 hx hg.1, t7 hx hy hg.2]⟩
   ·omega
 ·intro h8
  have k8 := of_decide_eq_false h8; try simp only [A5] at k8
  have hge : l.length ≤ i := by omega
  refine I4 ?_
  refine A3 (A2 ?_)
  refine A6 rfl rfl rfl rfl rfl ?_
  refine A1 rfl rfl rfl (G4 rfl G1 (A0 rfl)) ?_
  refine A1 rfl rfl rfl (W0 rfl (A0 rfl) C6) ?_
  refine C2 rfl rfl rfl rfl rfl ?_
  refine A4 ?_
  refine C8 ?_
  exact I2 rfl (D1 rfl (by first | exact congrArg AV.bool hfin.symm | exact congrArg AV.bool (by unfold l3Writes; rw [hinv.2, f9 hge, f8 hge, A5]; simp)))
end Go.Proofs.YtnlhbdkcgaeimaaGreat

set_option linter.unusedVariables false
set_option linter.unusedSimpArgs false
set_option maxRecDepth 100000
namespace Go.Proofs.YtnlhbdkcgaeimaaGreat
open Go Go.AV Go.M
attribute [local irreducible] OpW OpA OpS AWP FSpec ESpec RetOk RvDen Le Ev GuardIs
theorem AZ2 (w : TWrite) (k : Str) : FSpec Tryz.prog 268 [AV.agg w.cs, AV.str k] (AV.int (wCmp k w)) := by
 refine F3 Tryz.func268 rfl Tryz.ntmps268 rfl ?_
 refine A3 (A2 ?_)
 refine M7 rfl rfl rfl rfl (A0 rfl) ?_
 intro b2
 refine A1 rfl rfl rfl (C3 rfl C6) ?_
 refine A4 (A3 (A2 ?_))
 refine A1 rfl rfl rfl (B3 0 rfl J8 rfl G0 (A0 rfl) rfl) ?_
 refine A1 rfl rfl rfl (B2 0 rfl (A0 rfl) rfl H3 rfl) ?_
 refine A6 rfl rfl rfl rfl rfl ?_
 refine A1 rfl rfl rfl (F1 rfl Tryz.call250 rfl (AT9 _ _) (A7 (A0 rfl) (A7 (A0 rfl) D2))) ?_
 refine C2 rfl rfl rfl rfl rfl ?_
 refine A4 ?_
 refine C8 ?_
 exact I2 rfl (D1 rfl (by first | rfl | (refine congrArg AV.bool ?_; simp_all; done)))
theorem Ac4 (l : List TWrite) (k : Str) (hs : l.length ≤ 4611686018427387903) : FSpec Tryz.prog 216 [AV.list 3 (l.map TWrite.cs), AV.str k] (AV.tup [AV.int (wPos l k), AV.bool (wHas l k)]) := by
 refine F3 Tryz.func216 rfl Tryz.ntmps216 rfl ?_
 refine A3 (A2 ?_)
 refine A1 rfl rfl rfl (C3 rfl C6) ?_
 refine A1 rfl rfl rfl (C3 rfl F5) ?_
 refine A4 (A3 (A2 ?_))
 refine A6 rfl rfl rfl rfl rfl ?_
 refine A6 rfl rfl rfl rfl rfl ?_
 refine A1 rfl rfl rfl (F1 rfl Tryz.call267 rfl (AH4 _ _ _ (by first | (intros; trivial) | assumption | (intros; first | trivial | (simp_all; done))) _ (by omega)) (A7 (A0 rfl) (A7 (A0 rfl) (A7 (AD1 Tryz.call268 (fun w k (_ : True) => AZ2 w k)) D2)))) ?_
 refine A1 rfl rfl rfl (F6 rfl (A0 rfl) rfl) ?_
 refine A1 rfl rfl rfl (F6 rfl (A0 rfl) rfl) ?_
 refine C2 rfl rfl rfl rfl rfl ?_
 refine C2 rfl rfl rfl rfl rfl ?_
 refine A4 ?_
 refine C8 ?_
 exact W7 rfl (by decide) (E4 (D1 rfl (by first | rfl | (refine congrArg AV.bool ?_; simp_all; done))) (E4 (D1 rfl (by first | rfl | (refine congrArg AV.bool ?_; simp_all; done))) J6))
end Go.Proofs.YtnlhbdkcgaeimaaGreat

set_option linter.unusedVariables false
set_option linter.unusedSimpArgs false
set_option maxRecDepth 100000
namespace Go.Proofs.YtnlhbdkcgaeimaaGreat
open Go Go.AV Go.M
attribute [local irreducible] OpW OpA OpS AWP FSpec ESpec RetOk RvDen Le Ev GuardIs
theorem j4 {c : TCell} {n : Nat} (h : c.size ≤ n) : c.Key.length ≤ n ∧ c.Vers.length ≤ n ∧ sizeL TVer.size c.Vers ≤ n := by
  unfold TCell.size at h
  have : c.Vers.length ≤ n := Nat.le_trans O8 (show sizeL TVer.size c.Vers ≤ n by omega)
  omega
theorem Aq7 (t : Int) : FSpec Tryz.prog 90 [AV.int t] (AV.bool (isTrue t)) := by
 refine F3 Tryz.func90 rfl Tryz.ntmps90 rfl ?_
 refine A3 (A2 ?_)
 refine A1 rfl rfl rfl (C3 rfl F5) ?_
 refine A4 (A3 (A2 ?_))
 refine A6 rfl rfl rfl rfl rfl ?_
 refine A1 rfl rfl rfl (F1 rfl Tryz.call94 rfl (j0 _ _ _) (A7 (A0 rfl) (A7 C6 (A7 C6 D2)))) ?_
 refine C2 rfl rfl rfl rfl rfl ?_
 refine A4 ?_
 refine C8 ?_
 exact I2 rfl (D1 rfl (by first | rfl | (refine congrArg AV.bool ?_; simp_all; done)))
theorem n0 (t : Int) : FSpec Tryz.prog 147 [AV.int t] (AV.bool (within t 1 100000)) := by
 refine F3 Tryz.func147 rfl Tryz.ntmps147 rfl ?_
 refine A3 (A2 ?_)
 refine A1 rfl rfl rfl (C3 rfl F5) ?_
 refine A4 (A3 (A2 ?_))
 refine A6 rfl rfl rfl rfl rfl ?_
 refine A1 rfl rfl rfl (F1 rfl Tryz.call137 rfl (d4 _ _ _) (A7 (A0 rfl) (A7 C6 (A7 C6 D2)))) ?_
 refine C2 rfl rfl rfl rfl rfl ?_
 refine A4 ?_
 refine C8 ?_
 exact I2 rfl (D1 rfl (by first | rfl | (refine congrArg AV.bool ?_; simp_all; done)))
theorem Aq8 (t : Int) : FSpec Tryz.prog 120 [AV.int t] (AV.bool (isTrue t)) := by
 refine F3 Tryz.func120 rfl Tryz.ntmps120 rfl ?_
 refine A3 (A2 ?_)
 refine A1 rfl rfl rfl (C3 rfl F5) ?_
 refine A4 (A3 (A2 ?_))
 refine A6 rfl rfl rfl rfl rfl ?_
 refine A1 rfl rfl rfl (F1 rfl Tryz.call137 rfl (d4 _ _ _) (A7 (A0 rfl) (A7 C6 (A7 C6 D2)))) ?_
 refine C2 rfl rfl rfl rfl rfl ?_
 refine A4 ?_
 refine C8 ?_
 exact I2 rfl (D1 rfl (by first | rfl | (refine congrArg AV.bool ?_; simp_all; done)))
theorem Aq9 (c : TCell) (hs : c.size ≤ 4194304) : FSpec Tryz.prog 181 [AV.agg c.cs] (AV.bool (isCell c)) := by
 have hcl := j4 hs
 refine F3 Tryz.func181 rfl Tryz.ntmps181 rfl ?_
 refine A3 (A2 ?_)
 refine M7 rfl rfl rfl rfl (A0 rfl) ?_
 intro b1
 refine A1 rfl rfl rfl (C3 rfl F5) ?_
 refine A4 (A3 (A3 (A2 ?_)))
 refine A1 rfl rfl rfl (B3 1 rfl G9 rfl M9 (A0 rfl) rfl) ?_
 refine A1 rfl rfl rfl (B2 0 rfl (A0 rfl) rfl Q0 rfl) ?_
 refine A1 rfl rfl rfl (G4 rfl I7 (A0 rfl)) ?_
 refine A1 rfl rfl rfl (C7 rfl C6) ?_
 refine A4 (E1 ?_)
 refine K1 [(1, _), (6, _), (7, _)] _ (fun (i : Nat) => i ≤ c.Vers.length ∧ (c.Vers.all verGood && adj verLess c.Vers) = ((c.Vers.drop i).all verGood && adj verLess (c.Vers.drop (i - 1)))) (fun (i : Nat) => []) (fun (i : Nat) => [(8, AV.int i)]) (fun (i : Nat) => c.Vers.length - i) (0) ?_ (J9 ⟨rfl, rfl, rfl, rfl, trivial⟩) ?_
 ·exact ⟨Nat.zero_le _, rfl⟩
 intro i hinv
 refine A3 (A2 ?_)
 refine A1 rfl rfl rfl (M2 rfl (A0 rfl) (A0 rfl)) ?_
 refine A4 (A3 ?_)
 refine D0 (A0 rfl) ?_ ?_
 ·intro h9
  have k9 := of_decide_eq_true h9; try simp only [A5] at k9
  have hlt : i < c.Vers.length := by omega
  obtain ⟨x, hx⟩ := get_some hlt
  obtain ⟨y, hy⟩ := get_some (show i - 1 < c.Vers.length by omega)
  have hsx : x.size ≤ 4194304 := Nat.le_trans (X9 hx) hcl.2.2
  unfold TVer.size at hsx
  refine D5 (A3 (E1 (A3 (A2 ?_))))
  refine A6 rfl rfl rfl rfl rfl ?_
  refine A1 rfl rfl rfl (J4 rfl I7 O0 (A0 rfl) (A0 rfl) hx (by first | omega | (simp only [A5, B1, B5, C1, B0, szR] at *; omega))) ?_
  refine A1 rfl rfl rfl (K7 rfl (A0 rfl) d5 O0) ?_
  refine F4 rfl rfl rfl rfl Tryz.zeroValue197 rfl ?_
  intro b4
  refine C2 rfl rfl rfl rfl rfl ?_
  refine D3 0 rfl rfl rfl (A0 rfl) (A0 rfl) (D8 _) rfl O0 rfl ?_
  refine A4 (A3 ?_)
  refine J5 (by kernel_rfl) (by kernel_rfl) rfl ?_
  refine B4 rfl rfl (B3 0 rfl P8 rfl C0 (A0 rfl) rfl) ?_
  refine B4 rfl rfl (B2 0 rfl (A0 rfl) rfl C5 rfl) ?_
  refine B4 rfl rfl (F1 rfl Tryz.call134 rfl (m9 _) (A7 (A0 rfl) D2)) ?_
  refine B4 rfl rfl (N1 rfl (A0 rfl)) ?_
  refine B4 rfl rfl (C7 rfl (A0 rfl)) ?_
  refine D7 rfl (D6 rfl rfl rfl) (fun hc => B3 1 rfl P8 rfl G0 (A0 rfl) rfl) ?_
  refine D7 rfl (D6 rfl rfl rfl) (fun hc => B2 0 rfl (A9 rfl hc) rfl H3 rfl) ?_
  refine D7 rfl (D6 rfl rfl rfl) (fun hc => B3 2 rfl P8 rfl J7 (A0 rfl) rfl) ?_
  refine D7 rfl (D6 rfl rfl rfl) (fun hc => B2 0 rfl (A9 rfl hc) rfl K3 rfl) ?_
  refine D7 rfl (D6 rfl rfl rfl) (fun hc => F1 rfl Tryz.call242 rfl (AM5 _ _ (by omega)) (A7 (A9 rfl hc) (A7 (A9 rfl hc) D2))) ?_
  refine D7 rfl (D6 rfl rfl rfl) (fun hc => N1 rfl (A9 rfl hc)) ?_
  refine B4 rfl rfl (R4 rfl (A0 rfl) (G2 rfl)) ?_
  refine B4 rfl rfl (C7 rfl (A0 rfl)) ?_
  refine D7 rfl (D6 rfl rfl rfl) (fun hc => C7 rfl (A0 rfl)) ?_
  refine D7 rfl (D6 rfl rfl rfl) (fun hc => P4 rfl (A9 rfl hc) C6) ?_
  refine D7 rfl (D6 rfl rfl rfl) (fun hc => C7 rfl (A9 rfl hc)) ?_
  refine D7 rfl (F8 rfl rfl rfl) (fun hc => B3 0 rfl P8 rfl C0 (A0 rfl) rfl) ?_
  refine D7 rfl (F8 rfl rfl rfl) (fun hc => B2 0 rfl (A9 rfl hc) rfl C5 rfl) ?_
  refine D7 rfl (F8 rfl rfl rfl) (fun hc => B3 1 rfl G9 rfl M9 (A0 rfl) rfl) ?_
  refine D7 rfl (F8 rfl rfl rfl) (fun hc => B2 1 rfl (A9 rfl hc) rfl Q0 rfl) ?_
  refine D7 rfl (F8 rfl rfl rfl) (fun hc => C7 rfl (A0 rfl)) ?_
  refine D7 rfl (F8 rfl rfl rfl) (fun hc => S5 rfl (A9 rfl hc) C6 (by first | omega | ((try simp only [A5, B1, B5, C1, B0, szR] at *); omega) | (have hc2 := hc; simp only [Bool.and_eq_true, Bool.or_eq_true, Bool.or_eq_false_iff, Bool.and_eq_false_iff, Bool.not_eq_true', Bool.not_eq_false', decide_eq_true_eq, decide_eq_false_iff_not, beq_iff_eq, bne_iff_ne, A5, B1] at hc2; omega))) ?_
  refine D7 rfl (F8 rfl rfl rfl) (fun hc => J4 rfl I7 O0 (A9 rfl hc) (A9 rfl hc) hy (by first | omega | ((try simp only [A5, B1, B5, C1, B0, szR] at *); omega) | (have hc2 := hc; simp only [Bool.and_eq_true, Bool.or_eq_true, Bool.or_eq_false_iff, Bool.and_eq_false_iff, Bool.not_eq_true', Bool.not_eq_false', decide_eq_true_eq, decide_eq_false_iff_not, beq_iff_eq, bne_iff_ne, A5, B1] at hc2; omega))) ?_
  refine D7 rfl (F8 rfl rfl rfl) (fun hc => V1 rfl P8 rfl C0 (A9 rfl hc) rfl) ?_
  refine D7 rfl (F8 rfl rfl rfl) (fun hc => N4 rfl (A9 rfl hc) C5 rfl) ?_
  refine D7 rfl (F8 rfl rfl rfl) (fun hc => W0 rfl (A9 rfl hc) (A9 rfl hc)) ?_
  refine D7 rfl (D6 rfl rfl rfl) (fun hc => H8 rfl (A9 rfl hc) (T3 rfl hc)) ?_
  refine B4 rfl rfl (R4 rfl (A0 rfl) (G2 rfl)) ?_
  refine O5 ?_
  refine D0 (A0 rfl) ?_ ?_
  ·intro h40
   have hfin : isCell c = false := by unfold isCell; rw [hinv.2]; cases hg : verGood x with | false => (rw [r3 hx hg]; simp) | true => (have hb : 0 < i ∧ verLess y x = false := (by unfold verGood at hg; unfold verLess; simp_all; try grind); rw [t8 hx hy hb.1 hb.2]; simp)
   refine A3 (A2 ?_)
   refine A1 rfl rfl rfl (C3 rfl F5) ?_
   refine A4 ?_
   refine C8 ?_
   exact I2 rfl (D1 rfl (by first | exact congrArg AV.bool hfin.symm | exact congrArg AV.bool (by unfold isCell; rw [hinv.2, f9 hge, f8 hge]; simp)))
  ·intro h40
   have hg : verGood x = true ∧ (0 < i → verLess y x = true) := by unfold verGood verLess; simp_all
   refine D5 (A2 ?_)
   refine A1 rfl rfl rfl (H4 rfl (A0 rfl) C6 (by first | omega | (simp only [A5, B1, B5, C1, B0, szR] at *; omega))) ?_
   refine A6 rfl rfl rfl rfl rfl ?_
   refine A4 ?_
   refine M3 i (i + 1) ?_ ?_ (U9 1 ⟨rfl, rfl, rfl, rfl, trivial⟩)
   ·exact ⟨by omega, by rw [hinv.2, u3 hx hg.1, t7 hx hy hg.2]⟩
   ·omega
 ·intro h9
  have k9 := of_decide_eq_false h9; try simp only [A5] at k9
  have hge : c.Vers.length ≤ i := by omega
  refine I4 ?_
  refine A3 (A2 ?_)
  refine A1 rfl rfl rfl (B3 1 rfl G9 rfl M9 (A0 rfl) rfl) ?_
  refine A1 rfl rfl rfl (B2 0 rfl (A0 rfl) rfl Q0 rfl) ?_
  refine A1 rfl rfl rfl (G4 rfl I7 (A0 rfl)) ?_
  refine A1 rfl rfl rfl (F1 rfl Tryz.call94 rfl (j0 _ _ _) (A7 (A0 rfl) (A7 C6 (A7 C6 D2)))) ?_
  refine C2 rfl rfl rfl rfl rfl ?_
  refine A4 ?_
  refine C8 ?_
  exact I2 rfl (D1 rfl (by first | exact congrArg AV.bool hfin.symm | exact congrArg AV.bool (by unfold isCell; rw [hinv.2, f9 hge, f8 hge]; simp)))
theorem Ar0 (c : TCell) (hs : c.size ≤ 4194304) : FSpec Tryz.prog 260 [AV.agg c.cs] (AV.bool (l3Cell c)) := by
 have hcl := j4 hs
 refine F3 Tryz.func260 rfl Tryz.ntmps260 rfl ?_
 refine A3 (A2 ?_)
 refine M7 rfl rfl rfl rfl (A0 rfl) ?_
 intro b1
 refine A1 rfl rfl rfl (C3 rfl F5) ?_
 refine A4 (A3 (A3 (A2 ?_)))
 refine A1 rfl rfl rfl (B3 1 rfl G9 rfl M9 (A0 rfl) rfl) ?_
 refine A1 rfl rfl rfl (B2 0 rfl (A0 rfl) rfl Q0 rfl) ?_
 refine A1 rfl rfl rfl (G4 rfl I7 (A0 rfl)) ?_
 refine A1 rfl rfl rfl (C7 rfl C6) ?_
 refine A4 (E1 ?_)
 refine K1 [(1, _), (6, _), (7, _)] _ (fun (i : Nat) => i ≤ c.Vers.length ∧ (c.Vers.all (verGoodS c.Key) && adj verLess c.Vers) = ((c.Vers.drop i).all (verGoodS c.Key) && adj verLess (c.Vers.drop (i - 1)))) (fun (i : Nat) => []) (fun (i : Nat) => [(8, AV.int i)]) (fun (i : Nat) => c.Vers.length - i) (0) ?_ (J9 ⟨rfl, rfl, rfl, rfl, trivial⟩) ?_
 ·exact ⟨Nat.zero_le _, rfl⟩
 intro i hinv
 refine A3 (A2 ?_)
 refine A1 rfl rfl rfl (M2 rfl (A0 rfl) (A0 rfl)) ?_
 refine A4 (A3 ?_)
 refine D0 (A0 rfl) ?_ ?_
 ·intro h9
  have k9 := of_decide_eq_true h9; try simp only [A5] at k9
  have hlt : i < c.Vers.length := by omega
  obtain ⟨x, hx⟩ := get_some hlt
  obtain ⟨y, hy⟩ := get_some (show i - 1 < c.Vers.length by omega)
  have hsx : x.size ≤ 4194304 := Nat.le_trans (X9 hx) hcl.2.2
  unfold TVer.size at hsx
  refine D5 (A3 (E1 (A3 (A2 ?_))))
  refine A6 rfl rfl rfl rfl rfl ?_
  refine A1 rfl rfl rfl (J4 rfl I7 O0 (A0 rfl) (A0 rfl) hx (by first | omega | (simp only [A5, B1, B5, C1, B0, szR] at *; omega))) ?_
  refine A1 rfl rfl rfl (K7 rfl (A0 rfl) d5 O0) ?_
  refine F4 rfl rfl rfl rfl Tryz.zeroValue197 rfl ?_
  intro b4
  refine C2 rfl rfl rfl rfl rfl ?_
  refine D3 0 rfl rfl rfl (A0 rfl) (A0 rfl) (D8 _) rfl O0 rfl ?_
  refine A4 (A3 ?_)
  refine J5 (by kernel_rfl) (by kernel_rfl) rfl ?_
  refine B4 rfl rfl (B3 0 rfl P8 rfl C0 (A0 rfl) rfl) ?_
  refine B4 rfl rfl (B2 0 rfl (A0 rfl) rfl C5 rfl) ?_
  refine B4 rfl rfl (F1 rfl Tryz.call147 rfl (n0 _) (A7 (A0 rfl) D2)) ?_
  refine B4 rfl rfl (N1 rfl (A0 rfl)) ?_
  refine B4 rfl rfl (C7 rfl (A0 rfl)) ?_
  refine D7 rfl (D6 rfl rfl rfl) (fun hc => B3 0 rfl G9 rfl G0 (A0 rfl) rfl) ?_
  refine D7 rfl (D6 rfl rfl rfl) (fun hc => B2 1 rfl (A9 rfl hc) rfl H3 rfl) ?_
  refine D7 rfl (D6 rfl rfl rfl) (fun hc => B3 1 rfl P8 rfl G0 (A0 rfl) rfl) ?_
  refine D7 rfl (D6 rfl rfl rfl) (fun hc => B2 0 rfl (A9 rfl hc) rfl H3 rfl) ?_
  refine D7 rfl (D6 rfl rfl rfl) (fun hc => B3 2 rfl P8 rfl J7 (A0 rfl) rfl) ?_
  refine D7 rfl (D6 rfl rfl rfl) (fun hc => B2 0 rfl (A9 rfl hc) rfl K3 rfl) ?_
  refine D7 rfl (D6 rfl rfl rfl) (fun hc => F1 rfl Tryz.call235 rfl (AP9 _ _ _ (by omega) (by omega)) (A7 (A9 rfl hc) (A7 (A9 rfl hc) (A7 (A9 rfl hc) D2)))) ?_
  refine D7 rfl (D6 rfl rfl rfl) (fun hc => N1 rfl (A9 rfl hc)) ?_
  refine B4 rfl rfl (R4 rfl (A0 rfl) (G2 rfl)) ?_
  refine B4 rfl rfl (C7 rfl (A0 rfl)) ?_
  refine D7 rfl (D6 rfl rfl rfl) (fun hc => C7 rfl (A0 rfl)) ?_
  refine D7 rfl (D6 rfl rfl rfl) (fun hc => P4 rfl (A9 rfl hc) C6) ?_
  refine D7 rfl (D6 rfl rfl rfl) (fun hc => C7 rfl (A9 rfl hc)) ?_
  refine D7 rfl (F8 rfl rfl rfl) (fun hc => B3 1 rfl G9 rfl M9 (A0 rfl) rfl) ?_
  refine D7 rfl (F8 rfl rfl rfl) (fun hc => B2 1 rfl (A9 rfl hc) rfl Q0 rfl) ?_
  refine D7 rfl (F8 rfl rfl rfl) (fun hc => C7 rfl (A0 rfl)) ?_
  refine D7 rfl (F8 rfl rfl rfl) (fun hc => S5 rfl (A9 rfl hc) C6 (by first | omega | ((try simp only [A5, B1, B5, C1, B0, szR] at *); omega) | (have hc2 := hc; simp only [Bool.and_eq_true, Bool.or_eq_true, Bool.or_eq_false_iff, Bool.and_eq_false_iff, Bool.not_eq_true', Bool.not_eq_false', decide_eq_true_eq, decide_eq_false_iff_not, beq_iff_eq, bne_iff_ne, A5, B1] at hc2; omega))) ?_
  refine D7 rfl (F8 rfl rfl rfl) (fun hc => J4 rfl I7 O0 (A9 rfl hc) (A9 rfl hc) hy (by first | omega | ((try simp only [A5, B1, B5, C1, B0, szR] at *); omega) | (have hc2 := hc; simp only [Bool.and_eq_true, Bool.or_eq_true, Bool.or_eq_false_iff, Bool.and_eq_false_iff, Bool.not_eq_true', Bool.not_eq_false', decide_eq_true_eq, decide_eq_false_iff_not, beq_iff_eq, bne_iff_ne, A5, B1] at hc2; omega))) ?_
  refine D7 rfl (F8 rfl rfl rfl) (fun hc => V1 rfl P8 rfl C0 (A9 rfl hc) rfl) ?_
  refine D7 rfl (F8 rfl rfl rfl) (fun hc => N4 rfl (A9 rfl hc) C5 rfl) ?_
  refine D7 rfl (F8 rfl rfl rfl) (fun hc => B3 0 rfl P8 rfl C0 (A0 rfl) rfl) ?_
  refine D7 rfl (F8 rfl rfl rfl) (fun hc => B2 0 rfl (A9 rfl hc) rfl C5 rfl) ?_
  refine D7 rfl (F8 rfl rfl rfl) (fun hc => f5 rfl (A9 rfl hc) (A9 rfl hc)) ?_
  refine D7 rfl (D6 rfl rfl rfl) (fun hc => H8 rfl (A9 rfl hc) (T3 rfl hc)) ?_
  refine B4 rfl rfl (R4 rfl (A0 rfl) (G2 rfl)) ?_
  refine O5 ?_
  refine D0 (A0 rfl) ?_ ?_
  ·intro h42
   have hfin : l3Cell c = false := by unfold l3Cell; rw [hinv.2]; cases hg : verGoodS c.Key x with | false => (rw [r3 hx hg]; simp) | true => (have hb : 0 < i ∧ verLess y x = false := (by unfold verGoodS at hg; unfold verLess; simp_all; try grind); rw [t8 hx hy hb.1 hb.2]; simp)
   refine A3 (A2 ?_)
   refine A1 rfl rfl rfl (C3 rfl F5) ?_
   refine A4 ?_
   refine C8 ?_
   exact I2 rfl (D1 rfl (by first | exact congrArg AV.bool hfin.symm | exact congrArg AV.bool (by unfold l3Cell; rw [hinv.2, f9 hge, f8 hge]; simp)))
  ·intro h42
   have hg : verGoodS c.Key x = true ∧ (0 < i → verLess y x = true) := by unfold verGoodS verLess; simp_all
   refine D5 (A2 ?_)
   refine A1 rfl rfl rfl (H4 rfl (A0 rfl) C6 (by first | omega | (simp only [A5, B1, B5, C1, B0, szR] at *; omega))) ?_
   refine A6 rfl rfl rfl rfl rfl ?_
   refine A4 ?_
   refine M3 i (i + 1) ?_ ?_ (U9 1 ⟨rfl, rfl, rfl, rfl, trivial⟩)
   ·exact ⟨by omega, by rw [hinv.2, u3 hx hg.1, t7 hx hy hg.2]⟩
   ·omega
 ·intro h9
  have k9 := of_decide_eq_false h9; try simp only [A5] at k9
  have hge : c.Vers.length ≤ i := by omega
  refine I4 ?_
  refine A3 (A2 ?_)
  refine A1 rfl rfl rfl (B3 0 rfl G9 rfl G0 (A0 rfl) rfl) ?_
  refine A1 rfl rfl rfl (B2 0 rfl (A0 rfl) rfl H3 rfl) ?_
  refine A1 rfl rfl rfl (F1 rfl Tryz.call119 rfl (AL5 _ (by omega)) (A7 (A0 rfl) D2)) ?_
  refine A6 rfl rfl rfl rfl rfl ?_
  refine B7 rfl rfl (B9 rfl rfl rfl) (fun hc => B3 1 rfl G9 rfl M9 (A0 rfl) rfl) ?_
  refine B7 rfl rfl (B9 rfl rfl rfl) (fun hc => B2 0 rfl (A9 rfl hc) rfl Q0 rfl) ?_
  refine B7 rfl rfl (B9 rfl rfl rfl) (fun hc => G4 rfl I7 (A9 rfl hc)) ?_
  refine B7 rfl rfl (B9 rfl rfl rfl) (fun hc => F1 rfl Tryz.call137 rfl (d4 _ _ _) (A7 (A9 rfl hc) (A7 C6 (A7 C6 D2)))) ?_
  refine A1 rfl rfl rfl (H8 rfl (A0 rfl) (G2 rfl)) ?_
  refine C2 rfl rfl rfl rfl rfl ?_
  refine A4 ?_
  refine C8 ?_
  exact I2 rfl (D1 rfl (by first | exact congrArg AV.bool hfin.symm | exact congrArg AV.bool (by unfold l3Cell; rw [hinv.2, f9 hge, f8 hge]; simp)))
theorem AJ2 (l : List TCell) (hs : sizeL TCell.size l ≤ 4194304) : FSpec Tryz.prog 91 [AV.list 2 (l.map TCell.cs)] (AV.bool (goodCells l)) := by
 have hl : l.length ≤ 4194304 := Nat.le_trans O8 hs
 have hks : ∀ k ∈ cKeys l, k.length ≤ 4611686018427387904 := fun k hk => by
  obtain ⟨w, hw, rfl⟩ := List.mem_map.1 hk
  have := j4 (Nat.le_trans (AA6 hw) hs)
  omega
 refine F3 Tryz.func91 rfl Tryz.ntmps91 rfl ?_
 refine A3 (A2 ?_)
 refine A1 rfl rfl rfl (C3 rfl F5) ?_
 refine A4 (A3 (A2 ?_))
 refine U2 rfl rfl rfl rfl E6 G0 ?_
 intro v6
 refine C2 rfl rfl rfl rfl rfl ?_
 refine A4 (A3 (A3 (A2 ?_)))
 refine A6 rfl rfl rfl rfl rfl ?_
 refine A1 rfl rfl rfl (G4 rfl E2 (A0 rfl)) ?_
 refine A1 rfl rfl rfl (C7 rfl C6) ?_
 refine A4 (E1 ?_)
 refine T8 [(0, _), (7, _), (8, _)] _ (fun (i : Nat) (v : Value) => i ≤ l.length ∧ l.all isCell = (l.drop i).all isCell) (fun (i : Nat) (v : Value) => [.arr v 9 1 ((l.take i).map fun w => [AV.str w.Key])]) (fun (i : Nat) (v : Value) => [(3, AV.is v), (9, AV.int i)]) (fun (i : Nat) (v : Value) => l.length - i) (0) (v6) ?_ (U7 (by rfl) ⟨rfl, rfl, rfl, rfl, rfl, trivial⟩) ?_
 ·exact ⟨Nat.zero_le _, rfl⟩
 intro i v hinv
 refine A3 (A2 ?_)
 refine A1 rfl rfl rfl (M2 rfl (A0 rfl) (A0 rfl)) ?_
 refine A4 (A3 ?_)
 refine D0 (A0 rfl) ?_ ?_
 ·intro h10
  have k10 := of_decide_eq_true h10; try simp only [A5] at k10
  have hlt : i < l.length := by omega
  obtain ⟨x, hx⟩ := get_some hlt
  have hsx : x.size ≤ 4194304 := Nat.le_trans (X9 hx) hs
  refine D5 (A3 (E1 (A3 (A2 ?_))))
  refine A1 rfl rfl rfl (J4 rfl E2 F7 (A0 rfl) (A0 rfl) hx (by first | omega | (simp only [A5, B1, B5, C1, B0, szR] at *; omega))) ?_
  refine A1 rfl rfl rfl (K7 rfl (A0 rfl) S7 F7) ?_
  refine F4 rfl rfl rfl rfl Tryz.zeroValue142 rfl ?_
  intro b5
  refine D3 0 rfl rfl rfl (A0 rfl) (A0 rfl) (D8 _) rfl F7 rfl ?_
  refine A4 (A3 (A3 (A2 ?_)))
  refine A1 rfl rfl rfl (D9 0 rfl (A0 rfl) rfl S7 F7 rfl) ?_
  refine A1 rfl rfl rfl (F1 rfl Tryz.call181 rfl (Aq9 _ (by first | assumption | omega)) (A7 (A0 rfl) D2)) ?_
  refine A1 rfl rfl rfl (N1 rfl (A0 rfl)) ?_
  refine A4 ?_
  refine D0 (A0 rfl) ?_ ?_
  ·intro h15
   refine A3 (A2 ?_)
   refine A1 rfl rfl rfl (C3 rfl F5) ?_
   refine A4 ?_
   refine C8 ?_
   exact I2 rfl (D1 rfl (by first | exact congrArg AV.bool (by unfold goodCells; rw [hinv.2, r3 hx (by simpa using h15)]; rfl) | exact congrArg AV.bool (by unfold goodCells; rw [hinv.2, f9 hge, A5]; simp)))
  ·intro h15
   refine D5 (A2 ?_)
   refine A6 rfl rfl rfl rfl rfl ?_
   refine A1 rfl rfl rfl (B3 0 rfl G9 rfl G0 (A0 rfl) rfl) ?_
   refine A1 rfl rfl rfl (B2 0 rfl (A0 rfl) rfl H3 rfl) ?_
   refine A1 rfl rfl rfl (O1 rfl E6 G0 Tryz.zeroValue9 rfl rfl rfl rfl (E8 (A0 rfl) (Q9 _) I5) rfl rfl) ?_
   refine N6 (by' := 16) 1 rfl rfl rfl rfl E6 Tryz.type9 rfl rfl rfl rfl rfl rfl (A0 rfl) (A0 rfl) rfl (by first | omega | (simp only [A5, B1, B5, C1, B0, szR] at *; omega)) ?_
   intro v20_1
   refine C2 rfl rfl rfl rfl rfl ?_
   refine A4 (A2 ?_)
   refine A1 rfl rfl rfl (H4 rfl (A0 rfl) C6 (by first | omega | (simp only [A5, B1, B5, C1, B0, szR] at *; omega))) ?_
   refine A6 rfl rfl rfl rfl rfl ?_
   refine A4 ?_
   refine S3 i v (i + 1) (v20_1) ?_ ?_ (P1 1 (by exact congrArg (fun z => [Own.arr v20_1 9 1 z]) (W5 (f := fun w : TCell => [AV.str w.Key]) hx)) ⟨rfl, rfl, rfl, rfl, rfl, trivial⟩)
   ·exact ⟨by omega, by rw [hinv.2, u3 hx (by simpa using h15)]⟩
   ·omega
 ·intro h10
  have k10 := of_decide_eq_false h10; try simp only [A5] at k10
  have hge : l.length ≤ i := by omega
  rw [List.take_of_length_le hge, show (l.map fun w => [AV.str w.Key]) = (cKeys l).map (fun k => [AV.str k]) from by unfold cKeys; rw [List.map_map]; rfl]
  refine I4 ?_
  refine A3 (A2 ?_)
  refine A6 rfl rfl rfl rfl rfl ?_
  refine A1 rfl rfl rfl (G4 rfl E2 (A0 rfl)) ?_
  refine A1 rfl rfl rfl (W0 rfl (A0 rfl) C6) ?_
  refine A6 rfl rfl rfl rfl rfl ?_
  refine B7 rfl rfl (B9 rfl rfl rfl) (fun hc => C7 rfl (A0 rfl)) ?_
  refine B7 rfl rfl (B9 rfl rfl rfl) (fun hc => X0 rfl Tryz.call155 rfl (u9 (cKeys l) hks) (H0 _) (P2 (Ab3 0 (A9 rfl hc) rfl) V2)) ?_
  refine A1 rfl rfl rfl (H8 rfl (A0 rfl) (G2 rfl)) ?_
  refine C2 rfl rfl rfl rfl rfl ?_
  refine A4 ?_
  refine C8 ?_
  exact I2 rfl (D1 rfl (by first | exact congrArg AV.bool (by unfold goodCells; rw [hinv.2, r3 hx (by simpa using h15)]; rfl) | exact congrArg AV.bool (by unfold goodCells; rw [hinv.2, f9 hge, A5]; simp)))
theorem AU0 (l : List TCell) (hs : sizeL TCell.size l ≤ 4194304) : FSpec Tryz.prog 201 [AV.list 2 (l.map TCell.cs)] (AV.bool (l3Good l)) := by
 refine F3 Tryz.func201 rfl Tryz.ntmps201 rfl ?_
 refine Q8 (t := 0) rfl fun hl => ?_
 try simp only [A5] at hl
 refine A3 (A2 ?_)
 refine A1 rfl rfl rfl (C3 rfl F5) ?_
 refine A4 (A3 (A3 (A2 ?_)))
 refine A6 rfl rfl rfl rfl rfl ?_
 refine A1 rfl rfl rfl (G4 rfl E2 (A0 rfl)) ?_
 refine A1 rfl rfl rfl (C7 rfl C6) ?_
 refine A4 (E1 ?_)
 refine K1 [(0, _), (5, _), (6, _)] _ (fun (i : Nat) => i ≤ l.length ∧ (l.all l3Cell && adj cLess l) = ((l.drop i).all l3Cell && adj cLess (l.drop (i - 1)))) (fun (i : Nat) => []) (fun (i : Nat) => [(7, AV.int i)]) (fun (i : Nat) => l.length - i) (0) ?_ (J9 ⟨rfl, rfl, rfl, rfl, trivial⟩) ?_
 ·exact ⟨Nat.zero_le _, rfl⟩
 intro i hinv
 refine A3 (A2 ?_)
 refine A1 rfl rfl rfl (M2 rfl (A0 rfl) (A0 rfl)) ?_
 refine A4 (A3 ?_)
 refine D0 (A0 rfl) ?_ ?_
 ·intro h8
  have k8 := of_decide_eq_true h8; try simp only [A5] at k8
  have hlt : i < l.length := by omega
  obtain ⟨x, hx⟩ := get_some hlt
  obtain ⟨y, hy⟩ := get_some (show i - 1 < l.length by omega)
  have hsx : x.size ≤ 4194304 := Nat.le_trans (X9 hx) hs
  refine D5 (A3 (E1 (A3 (A2 ?_))))
  refine A6 rfl rfl rfl rfl rfl ?_
  refine A1 rfl rfl rfl (J4 rfl E2 F7 (A0 rfl) (A0 rfl) hx (by first | omega | (simp only [A5, B1, B5, C1, B0, szR] at *; omega))) ?_
  refine A1 rfl rfl rfl (K7 rfl (A0 rfl) S7 F7) ?_
  refine F4 rfl rfl rfl rfl Tryz.zeroValue142 rfl ?_
  intro b4
  refine C2 rfl rfl rfl rfl rfl ?_
  refine D3 0 rfl rfl rfl (A0 rfl) (A0 rfl) (D8 _) rfl F7 rfl ?_
  refine A4 (A3 ?_)
  refine J5 (by kernel_rfl) (by kernel_rfl) rfl ?_
  refine B4 rfl rfl (D9 0 rfl (A0 rfl) rfl S7 F7 rfl) ?_
  refine B4 rfl rfl (F1 rfl Tryz.call260 rfl (Ar0 _ (by first | assumption | omega)) (A7 (A0 rfl) D2)) ?_
  refine B4 rfl rfl (N1 rfl (A0 rfl)) ?_
  refine B4 rfl rfl (C7 rfl (A0 rfl)) ?_
  refine D7 rfl (D6 rfl rfl rfl) (fun hc => C7 rfl (A0 rfl)) ?_
  refine D7 rfl (D6 rfl rfl rfl) (fun hc => P4 rfl (A9 rfl hc) C6) ?_
  refine D7 rfl (D6 rfl rfl rfl) (fun hc => C7 rfl (A9 rfl hc)) ?_
  refine D7 rfl (F8 rfl rfl rfl) (fun hc => C7 rfl (A0 rfl)) ?_
  refine D7 rfl (F8 rfl rfl rfl) (fun hc => C7 rfl (A0 rfl)) ?_
  refine D7 rfl (F8 rfl rfl rfl) (fun hc => S5 rfl (A9 rfl hc) C6 (by first | omega | ((try simp only [A5, B1, B5, C1, B0, szR] at *); omega) | (have hc2 := hc; simp only [Bool.and_eq_true, Bool.or_eq_true, Bool.or_eq_false_iff, Bool.and_eq_false_iff, Bool.not_eq_true', Bool.not_eq_false', decide_eq_true_eq, decide_eq_false_iff_not, beq_iff_eq, bne_iff_ne, A5, B1] at hc2; omega))) ?_
  refine D7 rfl (F8 rfl rfl rfl) (fun hc => J4 rfl E2 F7 (A9 rfl hc) (A9 rfl hc) hy (by first | omega | ((try simp only [A5, B1, B5, C1, B0, szR] at *); omega) | (have hc2 := hc; simp only [Bool.and_eq_true, Bool.or_eq_true, Bool.or_eq_false_iff, Bool.and_eq_false_iff, Bool.not_eq_true', Bool.not_eq_false', decide_eq_true_eq, decide_eq_false_iff_not, beq_iff_eq, bne_iff_ne, A5, B1] at hc2; omega))) ?_
  refine D7 rfl (F8 rfl rfl rfl) (fun hc => V1 rfl G9 rfl G0 (A9 rfl hc) rfl) ?_
  refine D7 rfl (F8 rfl rfl rfl) (fun hc => N4 rfl (A9 rfl hc) H3 rfl) ?_
  refine D7 rfl (F8 rfl rfl rfl) (fun hc => B3 0 rfl G9 rfl G0 (A0 rfl) rfl) ?_
  refine D7 rfl (F8 rfl rfl rfl) (fun hc => B2 0 rfl (A9 rfl hc) rfl H3 rfl) ?_
  refine D7 rfl (F8 rfl rfl rfl) (fun hc => Ak4 rfl (A9 rfl hc) (A9 rfl hc)) ?_
  refine D7 rfl (D6 rfl rfl rfl) (fun hc => H8 rfl (A9 rfl hc) (T3 rfl hc)) ?_
  refine B4 rfl rfl (R4 rfl (A0 rfl) (G2 rfl)) ?_
  refine O5 ?_
  refine D0 (A0 rfl) ?_ ?_
  ·intro h29
   have hfin : l3Good l = false := by unfold l3Good; rw [hinv.2]; cases hg : l3Cell x with | false => (rw [r3 hx hg]; simp) | true => (have hb : 0 < i ∧ cLess y x = false := (by unfold cLess; simp_all; try grind); rw [t8 hx hy hb.1 hb.2]; simp)
   refine A3 (A2 ?_)
   refine A1 rfl rfl rfl (C3 rfl F5) ?_
   refine A4 ?_
   refine C8 ?_
   exact I2 rfl (D1 rfl (by first | exact congrArg AV.bool hfin.symm | exact congrArg AV.bool (by unfold l3Good; rw [hinv.2, f9 hge, f8 hge, A5]; simp)))
  ·intro h29
   have hg : l3Cell x = true ∧ (0 < i → cLess y x = true) := by unfold cLess; simp_all
   refine D5 (A2 ?_)
   refine A1 rfl rfl rfl (H4 rfl (A0 rfl) C6 (by first | omega | (simp only [A5, B1, B5, C1, B0, szR] at *; omega))) ?_
   refine A6 rfl rfl rfl rfl rfl ?_
   refine A4 ?_
   refine M3 i (i + 1) ?_ ?_ (U9 1 ⟨rfl, rfl, rfl, rfl, trivial⟩)
   ·exact ⟨by omega, by rw [hinv.2, u3 hx hg.1, t7 hx hy hg.2]⟩
   ·omega
 ·intro h8
  have k8 := of_decide_eq_false h8; try simp only [A5] at k8
  have hge : l.length ≤ i := by omega
  refine I4 ?_
  refine A3 (A2 ?_)
  refine A6 rfl rfl rfl rfl rfl ?_
  refine A1 rfl rfl rfl (G4 rfl E2 (A0 rfl)) ?_
  refine A1 rfl rfl rfl (W0 rfl (A0 rfl) C6) ?_
  refine C2 rfl rfl rfl rfl rfl ?_
  refine A4 ?_
  refine C8 ?_
  exact I2 rfl (D1 rfl (by first | exact congrArg AV.bool hfin.symm | exact congrArg AV.bool (by unfold l3Good; rw [hinv.2, f9 hge, f8 hge, A5]; simp)))
theorem Ac5 (c : TCell) (k : Str) : FSpec Tryz.prog 249 [AV.agg c.cs, AV.str k] (AV.int (cCmp k c)) := by
 refine F3 Tryz.func249 rfl Tryz.ntmps249 rfl ?_
 refine A3 (A2 ?_)
 refine M7 rfl rfl rfl rfl (A0 rfl) ?_
 intro b2
 refine A1 rfl rfl rfl (C3 rfl C6) ?_
 refine A4 (A3 (A2 ?_))
 refine A1 rfl rfl rfl (B3 0 rfl G9 rfl G0 (A0 rfl) rfl) ?_
 refine A1 rfl rfl rfl (B2 0 rfl (A0 rfl) rfl H3 rfl) ?_
 refine A6 rfl rfl rfl rfl rfl ?_
 refine A1 rfl rfl rfl (F1 rfl Tryz.call250 rfl (AT9 _ _) (A7 (A0 rfl) (A7 (A0 rfl) D2))) ?_
 refine C2 rfl rfl rfl rfl rfl ?_
 refine A4 ?_
 refine C8 ?_
 exact I2 rfl (D1 rfl (by first | rfl | (refine congrArg AV.bool ?_; simp_all; done)))
theorem AB3 (l : List TCell) (k : Str) (hs : l.length ≤ 4611686018427387903) : FSpec Tryz.prog 189 [AV.list 2 (l.map TCell.cs), AV.str k] (AV.tup [AV.int (cPos l k), AV.bool (cHas l k)]) := by
 refine F3 Tryz.func189 rfl Tryz.ntmps189 rfl ?_
 refine A3 (A2 ?_)
 refine A1 rfl rfl rfl (C3 rfl C6) ?_
 refine A1 rfl rfl rfl (C3 rfl F5) ?_
 refine A4 (A3 (A2 ?_))
 refine A6 rfl rfl rfl rfl rfl ?_
 refine A6 rfl rfl rfl rfl rfl ?_
 refine A1 rfl rfl rfl (F1 rfl Tryz.call248 rfl (AI7 _ _ _ (by first | (intros; trivial) | assumption | (intros; first | trivial | (simp_all; done))) _ (by omega)) (A7 (A0 rfl) (A7 (A0 rfl) (A7 (AD1 Tryz.call249 (fun c k (_ : True) => Ac5 c k)) D2)))) ?_
 refine A1 rfl rfl rfl (F6 rfl (A0 rfl) rfl) ?_
 refine A1 rfl rfl rfl (F6 rfl (A0 rfl) rfl) ?_
 refine C2 rfl rfl rfl rfl rfl ?_
 refine C2 rfl rfl rfl rfl rfl ?_
 refine A4 ?_
 refine C8 ?_
 exact W7 rfl (by decide) (E4 (D1 rfl (by first | rfl | (refine congrArg AV.bool ?_; simp_all; done))) (E4 (D1 rfl (by first | rfl | (refine congrArg AV.bool ?_; simp_all; done))) J6))
theorem Ag3 {c : TCell} (h : 1 ≤ c.Vers.length) : ∃ v, c.Vers[c.Vers.length - 1]? = some v ∧ lastV c = v.Time := by
  obtain ⟨v, hv⟩ := get_some (show c.Vers.length - 1 < c.Vers.length by omega)
  refine ⟨v, hv, ?_⟩
  unfold lastV; rw [List.getLast?_eq_getElem?, hv]
theorem AB4 (l : List TCell) (k : Str) (ho : CellsOk l) (hs : sizeL TCell.size l ≤ 4194304) : FSpec Tryz.prog 93 [AV.list 2 (l.map TCell.cs), AV.str k] (AV.int (lastTime l k)) := by
 have hl : l.length ≤ 4194304 := Nat.le_trans O8 hs
 refine F3 Tryz.func93 rfl Tryz.ntmps93 rfl ?_
 refine A3 (A2 ?_)
 refine A1 rfl rfl rfl (C3 rfl C6) ?_
 refine A4 (A3 (A2 ?_))
 refine A6 rfl rfl rfl rfl rfl ?_
 refine A6 rfl rfl rfl rfl rfl ?_
 refine A1 rfl rfl rfl (F1 rfl Tryz.call189 rfl (AB3 _ _ (by first | assumption | omega)) (A7 (A0 rfl) (A7 (A0 rfl) D2))) ?_
 refine A6 rfl rfl rfl rfl rfl ?_
 refine A1 rfl rfl rfl (F6 rfl (A0 rfl) rfl) ?_
 refine A1 rfl rfl rfl (F6 rfl (A0 rfl) rfl) ?_
 refine C2 rfl rfl rfl rfl rfl ?_
 refine C2 rfl rfl rfl rfl rfl ?_
 refine A4 (A3 (A3 (A2 ?_)))
 refine A6 rfl rfl rfl rfl rfl ?_
 refine A1 rfl rfl rfl (N1 rfl (A0 rfl)) ?_
 refine A4 ?_
 refine D0 (A0 rfl) ?_ ?_
 ·intro h14
  have hn : cHas l k = false := by simpa using h14
  have he : lastTime l k = 0 := by unfold lastTime; rw [AW2 ho.1, hn]; rfl
  rw [he]
  refine A3 (A2 ?_)
  refine A1 rfl rfl rfl (C3 rfl C6) ?_
  refine A4 ?_
  refine C8 ?_
  exact I2 rfl (D1 rfl (by first | rfl | (refine congrArg AV.bool ?_; simp_all; done)))
 ·intro h14
  have hn : cHas l k = true := by simpa using h14
  obtain ⟨c, hc, hck⟩ := u4.1 hn
  obtain ⟨v, hv, hlv⟩ := Ag3 (ho.2 c (H2 hc))
  have hcl := j4 (Nat.le_trans (X9 hc) hs)
  have hc1 := ho.2 c (H2 hc)
  have he : lastTime l k = v.Time := by unfold lastTime; rw [AW2 ho.1, hn, if_pos rfl, hc]; exact hlv
  rw [he]
  refine D5 (A3 ?_)
  refine J5 (by kernel_rfl) (by kernel_rfl) rfl ?_
  refine B4 rfl rfl (C7 rfl (A0 rfl)) ?_
  refine B4 rfl rfl (C7 rfl (A0 rfl)) ?_
  refine B4 rfl rfl (J4 rfl E2 F7 (A0 rfl) (A0 rfl) hc (by first | omega | (simp only [A5, B1, B5, C1, B0, szR] at *; omega))) ?_
  refine B4 rfl rfl (V1 rfl G9 rfl M9 (A0 rfl) rfl) ?_
  refine B4 rfl rfl (N4 rfl (A0 rfl) Q0 rfl) ?_
  refine B4 rfl rfl (C7 rfl (A0 rfl)) ?_
  refine B4 rfl rfl (C7 rfl (A0 rfl)) ?_
  refine B4 rfl rfl (J4 rfl E2 F7 (A0 rfl) (A0 rfl) hc (by first | omega | (simp only [A5, B1, B5, C1, B0, szR] at *; omega))) ?_
  refine B4 rfl rfl (V1 rfl G9 rfl M9 (A0 rfl) rfl) ?_
  refine B4 rfl rfl (N4 rfl (A0 rfl) Q0 rfl) ?_
  refine B4 rfl rfl (G4 rfl I7 (A0 rfl)) ?_
  refine B4 rfl rfl (S5 rfl (A0 rfl) C6 (by first | omega | (simp only [A5, B1, B5, C1, B0, szR] at *; omega))) ?_
  refine B4 rfl rfl (J4 rfl I7 O0 (A0 rfl) (A0 rfl) hv (by first | omega | (simp only [A5, B1, B5, C1, B0, szR] at *; omega))) ?_
  refine B4 rfl rfl (V1 rfl P8 rfl C0 (A0 rfl) rfl) ?_
  refine B4 rfl rfl (N4 rfl (A0 rfl) C5 rfl) ?_
  refine B4 rfl rfl (C3 rfl (A0 rfl)) ?_
  refine O5 ?_
  refine C8 ?_
  exact I2 rfl (D1 rfl (by first | rfl | (refine congrArg AV.bool ?_; simp_all; done)))
theorem Ag4 (l : List TCell) (k : Str) : FSpec Tryz.prog 261 [AV.list 2 (l.map TCell.cs), AV.str k] (AV.int (atC l k)) := by
 refine F3 Tryz.func261 rfl Tryz.ntmps261 rfl ?_
 refine Q8 (t := 0) rfl fun hl => ?_
 try simp only [A5] at hl
 refine A3 (A2 ?_)
 refine A1 rfl rfl rfl (C3 rfl C6) ?_
 refine A4 (A3 (A3 (A2 ?_)))
 refine A6 rfl rfl rfl rfl rfl ?_
 refine A1 rfl rfl rfl (G4 rfl E2 (A0 rfl)) ?_
 refine A1 rfl rfl rfl (C7 rfl C6) ?_
 refine A4 (E1 ?_)
 refine K1 [(1, _), (7, _), (8, _)] _ (fun (i : Nat) => i ≤ l.length ∧ ∀ j x, j < i → l[j]? = some x → x.Key ≠ k) (fun (i : Nat) => []) (fun (i : Nat) => [(9, AV.int i)]) (fun (i : Nat) => l.length - i) (0) ?_ (J9 ⟨rfl, rfl, rfl, rfl, trivial⟩) ?_
 ·exact ⟨Nat.zero_le _, fun j x h => by omega⟩
 intro i hinv
 refine A3 (A2 ?_)
 refine A1 rfl rfl rfl (M2 rfl (A0 rfl) (A0 rfl)) ?_
 refine A4 (A3 ?_)
 refine D0 (A0 rfl) ?_ ?_
 ·intro h10
  have k10 := of_decide_eq_true h10; try simp only [A5] at k10
  have hlt : i < l.length := by omega
  obtain ⟨x, hx⟩ := get_some hlt
  refine D5 (A3 (E1 (A3 (A2 ?_))))
  refine A6 rfl rfl rfl rfl rfl ?_
  refine A1 rfl rfl rfl (J4 rfl E2 F7 (A0 rfl) (A0 rfl) hx (by first | omega | (simp only [A5, B1, B5, C1, B0, szR] at *; omega))) ?_
  refine A1 rfl rfl rfl (K7 rfl (A0 rfl) S7 F7) ?_
  refine F4 rfl rfl rfl rfl Tryz.zeroValue142 rfl ?_
  intro b6
  refine C2 rfl rfl rfl rfl rfl ?_
  refine D3 0 rfl rfl rfl (A0 rfl) (A0 rfl) (D8 _) rfl F7 rfl ?_
  refine A4 (A3 (A2 ?_))
  refine A1 rfl rfl rfl (B3 0 rfl G9 rfl G0 (A0 rfl) rfl) ?_
  refine A1 rfl rfl rfl (B2 0 rfl (A0 rfl) rfl H3 rfl) ?_
  refine A6 rfl rfl rfl rfl rfl ?_
  refine A1 rfl rfl rfl (s4 rfl (A0 rfl) (A0 rfl)) ?_
  refine A4 ?_
  refine D0 (A0 rfl) ?_ ?_
  ·intro h17
   refine A3 (A2 ?_)
   refine A6 rfl rfl rfl rfl rfl ?_
   refine C2 rfl rfl rfl rfl rfl ?_
   refine A4 ?_
   refine C8 ?_
   exact I2 rfl (D1 rfl (by first | exact congrArg AV.int (Al8 hx (by simpa using h17) hinv.2).symm | exact congrArg AV.int (Al9 fun j x hx => hinv.2 j x (Nat.lt_of_lt_of_le (List.getElem?_eq_some_iff.1 hx).1 hge) hx).symm))
  ·intro h17
   refine D5 (A2 ?_)
   refine A1 rfl rfl rfl (H4 rfl (A0 rfl) C6 (by first | omega | (simp only [A5, B1, B5, C1, B0, szR] at *; omega))) ?_
   refine A6 rfl rfl rfl rfl rfl ?_
   refine A4 ?_
   refine M3 i (i + 1) ?_ ?_ (U9 1 ⟨rfl, rfl, rfl, rfl, trivial⟩)
   ·exact ⟨by omega, fun j y hj hy => if hji : j < i then hinv.2 j y hji hy else (by have e : j = i := (by omega); subst e; rw [hx] at hy; injection hy with hy; subst hy; simpa using h17)⟩
   ·omega
 ·intro h10
  have k10 := of_decide_eq_false h10; try simp only [A5] at k10
  have hge : l.length ≤ i := by omega
  refine I4 ?_
  refine A3 (A2 ?_)
  refine A1 rfl rfl rfl (C3 rfl C6) ?_
  refine A4 ?_
  refine C8 ?_
  exact I2 rfl (D1 rfl (by first | exact congrArg AV.int (Al8 hx (by simpa using h17) hinv.2).symm | exact congrArg AV.int (Al9 fun j x hx => hinv.2 j x (Nat.lt_of_lt_of_le (List.getElem?_eq_some_iff.1 hx).1 hge) hx).symm))
theorem AH5 (l : List TCell) (k : Str) (ho : CellsOk l) (hs : sizeL TCell.size l ≤ 4194304) : FSpec Tryz.prog 203 [AV.list 2 (l.map TCell.cs), AV.str k] (AV.int (lastTime l k)) := by
 have hl : l.length ≤ 4194304 := Nat.le_trans O8 hs
 refine F3 Tryz.func203 rfl Tryz.ntmps203 rfl ?_
 refine A3 (A2 ?_)
 refine A1 rfl rfl rfl (C3 rfl C6) ?_
 refine A4 (A3 (A2 ?_))
 refine A6 rfl rfl rfl rfl rfl ?_
 refine A6 rfl rfl rfl rfl rfl ?_
 refine A1 rfl rfl rfl (F1 rfl Tryz.call261 rfl (Ag4 _ _) (A7 (A0 rfl) (A7 (A0 rfl) D2))) ?_
 refine C2 rfl rfl rfl rfl rfl ?_
 refine A4 (A3 (A3 (A2 ?_)))
 refine A6 rfl rfl rfl rfl rfl ?_
 refine A1 rfl rfl rfl (M2 rfl (A0 rfl) C6) ?_
 refine A4 ?_
 refine D0 (A0 rfl) ?_ ?_
 ·intro h10
  have k10 := of_decide_eq_true h10; try simp only [A5] at k10
  have hn : findC l k = none := At5 k10
  have he : lastTime l k = 0 := by unfold lastTime; rw [hn]
  rw [he]
  refine A3 (A2 ?_)
  refine A1 rfl rfl rfl (C3 rfl C6) ?_
  refine A4 ?_
  refine C8 ?_
  exact I2 rfl (D1 rfl (by first | rfl | (refine congrArg AV.bool ?_; simp_all; done)))
 ·intro h10
  have k10 := of_decide_eq_false h10; try simp only [A5] at k10
  obtain ⟨p, c, hp, hc, hf⟩ := At6 k10
  rw [hp]
  obtain ⟨v, hv, hlv⟩ := Ag3 (ho.2 c (H2 hc))
  have hcl := j4 (Nat.le_trans (X9 hc) hs)
  have hc1 := ho.2 c (H2 hc)
  have he : lastTime l k = v.Time := by unfold lastTime; rw [hf]; exact hlv
  rw [he]
  refine D5 (A3 ?_)
  refine J5 (by kernel_rfl) (by kernel_rfl) rfl ?_
  refine B4 rfl rfl (C7 rfl (A0 rfl)) ?_
  refine B4 rfl rfl (C7 rfl (A0 rfl)) ?_
  refine B4 rfl rfl (J4 rfl E2 F7 (A0 rfl) (A0 rfl) hc (by first | omega | (simp only [A5, B1, B5, C1, B0, szR] at *; omega))) ?_
  refine B4 rfl rfl (V1 rfl G9 rfl M9 (A0 rfl) rfl) ?_
  refine B4 rfl rfl (N4 rfl (A0 rfl) Q0 rfl) ?_
  refine B4 rfl rfl (C7 rfl (A0 rfl)) ?_
  refine B4 rfl rfl (C7 rfl (A0 rfl)) ?_
  refine B4 rfl rfl (J4 rfl E2 F7 (A0 rfl) (A0 rfl) hc (by first | omega | (simp only [A5, B1, B5, C1, B0, szR] at *; omega))) ?_
  refine B4 rfl rfl (V1 rfl G9 rfl M9 (A0 rfl) rfl) ?_
  refine B4 rfl rfl (N4 rfl (A0 rfl) Q0 rfl) ?_
  refine B4 rfl rfl (G4 rfl I7 (A0 rfl)) ?_
  refine B4 rfl rfl (S5 rfl (A0 rfl) C6 (by first | omega | (simp only [A5, B1, B5, C1, B0, szR] at *; omega))) ?_
  refine B4 rfl rfl (J4 rfl I7 O0 (A0 rfl) (A0 rfl) hv (by first | omega | (simp only [A5, B1, B5, C1, B0, szR] at *; omega))) ?_
  refine B4 rfl rfl (V1 rfl P8 rfl C0 (A0 rfl) rfl) ?_
  refine B4 rfl rfl (N4 rfl (A0 rfl) C5 rfl) ?_
  refine B4 rfl rfl (C3 rfl (A0 rfl)) ?_
  refine O5 ?_
  refine C8 ?_
  exact I2 rfl (D1 rfl (by first | rfl | (refine congrArg AV.bool ?_; simp_all; done)))
theorem AQ0 (a b : List TCell) (pre : TCell → TCell → Prop) (hp : ∀ x y, pre x y) : FSpec Tryz.prog 209 [AV.list 2 (a.map TCell.cs), AV.list 2 (b.map TCell.cs), AV.fun2 Tryz.prog pre (fun a => AV.agg a.cs) (fun b => AV.agg b.cs) (fun a b => AV.bool (decide (a = b)))] (AV.bool (decide (a = b))) := by
 refine F3 Tryz.func209 rfl Tryz.ntmps209 rfl ?_
 refine Q8 (t := 0) rfl fun hl => ?_
 try simp only [A5] at hl
 refine A3 (A2 ?_)
 refine A1 rfl rfl rfl (C3 rfl F5) ?_
 refine A4 (A3 (A3 (A2 ?_)))
 refine A6 rfl rfl rfl rfl rfl ?_
 refine A1 rfl rfl rfl (G4 rfl E2 (A0 rfl)) ?_
 refine A6 rfl rfl rfl rfl rfl ?_
 refine A1 rfl rfl rfl (G4 rfl E2 (A0 rfl)) ?_
 refine A1 rfl rfl rfl (Z7 rfl (A0 rfl) (A0 rfl)) ?_
 refine A4 ?_
 refine D0 (A0 rfl) ?_ ?_
 ·intro h14
  have k14 := W9 h14; try simp only [A5] at k14
  have hab : a ≠ b := by intro hc; subst hc; exact k14 rfl
  refine A3 (A2 ?_)
  refine A1 rfl rfl rfl (C3 rfl F5) ?_
  refine A4 ?_
  refine C8 ?_
  exact I2 rfl (D1 rfl (by exact congrArg AV.bool (by simp [hab])))
 ·intro h14
  have k14 := S8 h14; try simp only [A5] at k14
  have heq : a.length = b.length := by omega
  refine D5 (A3 (A3 (A2 ?_)))
  refine A6 rfl rfl rfl rfl rfl ?_
  refine A1 rfl rfl rfl (G4 rfl E2 (A0 rfl)) ?_
  refine A1 rfl rfl rfl (C7 rfl C6) ?_
  refine A4 (E1 ?_)
  refine K1 [(1, _), (2, _), (15, _), (16, _)] _ (fun (i : Nat) => i ≤ a.length ∧ a.take i = b.take i) (fun (i : Nat) => []) (fun (i : Nat) => [(17, AV.int i)]) (fun (i : Nat) => a.length - i) (0) ?_ (J9 ⟨rfl, rfl, rfl, rfl, rfl, trivial⟩) ?_
  ·exact ⟨Nat.zero_le _, rfl⟩
  intro i hinv
  refine A3 (A2 ?_)
  refine A1 rfl rfl rfl (M2 rfl (A0 rfl) (A0 rfl)) ?_
  refine A4 (A3 ?_)
  refine D0 (A0 rfl) ?_ ?_
  ·intro h18
   have k18 := of_decide_eq_true h18; try simp only [A5] at k18
   have hlt : i < a.length := by omega
   obtain ⟨x, hx⟩ := get_some hlt
   obtain ⟨y, hy⟩ := get_some (show i < b.length by omega)
   refine D5 (A3 (E1 (A3 (A2 ?_))))
   refine A6 rfl rfl rfl rfl rfl ?_
   refine A1 rfl rfl rfl (J4 rfl E2 F7 (A0 rfl) (A0 rfl) hx (by first | omega | (simp only [A5, B1, B5, C1, B0, szR] at *; omega))) ?_
   refine A1 rfl rfl rfl (K7 rfl (A0 rfl) S7 F7) ?_
   refine F4 rfl rfl rfl rfl Tryz.zeroValue142 rfl ?_
   intro b8
   refine C2 rfl rfl rfl rfl rfl ?_
   refine D3 0 rfl rfl rfl (A0 rfl) (A0 rfl) (D8 _) rfl F7 rfl ?_
   refine A4 (A3 (A2 ?_))
   refine A6 rfl rfl rfl rfl rfl ?_
   refine A6 rfl rfl rfl rfl rfl ?_
   refine A1 rfl rfl rfl (J4 rfl E2 F7 (A0 rfl) (A0 rfl) hy (by first | omega | (simp only [A5, B1, B5, C1, B0, szR] at *; omega))) ?_
   refine A1 rfl rfl rfl (K7 rfl (A0 rfl) S7 F7) ?_
   refine F4 rfl rfl rfl rfl Tryz.zeroValue142 rfl ?_
   intro b9
   refine D3 0 rfl rfl rfl (A0 rfl) (A0 rfl) (D8 _) rfl F7 rfl ?_
   refine A4 (A3 (A2 ?_))
   refine A6 rfl rfl rfl rfl rfl ?_
   refine A1 rfl rfl rfl (D9 1 rfl (A0 rfl) rfl S7 F7 rfl) ?_
   refine A1 rfl rfl rfl (D9 0 rfl (A0 rfl) rfl S7 F7 rfl) ?_
   refine A1 rfl rfl rfl (i3 rfl (A0 rfl) x y (hp x y) (A0 rfl) (A0 rfl)) ?_
   refine A1 rfl rfl rfl (N1 rfl (A0 rfl)) ?_
   refine A4 ?_
   refine D0 (A0 rfl) ?_ ?_
   ·intro h30
    have hab : a ≠ b := by intro hc; subst hc; rw [hx] at hy; injection hy with hy; subst hy; simp at h30
    refine A3 (A2 ?_)
    refine A1 rfl rfl rfl (C3 rfl F5) ?_
    refine A4 ?_
    refine C8 ?_
    exact I2 rfl (D1 rfl (by exact congrArg AV.bool (by simp [hab])))
   ·intro h30
    refine D5 (A2 ?_)
    refine A1 rfl rfl rfl (H4 rfl (A0 rfl) C6 (by first | omega | (simp only [A5, B1, B5, C1, B0, szR] at *; omega))) ?_
    refine A6 rfl rfl rfl rfl rfl ?_
    refine A4 ?_
    refine M3 i (i + 1) ?_ ?_ (U9 2 ⟨rfl, rfl, rfl, rfl, rfl, trivial⟩)
    ·exact ⟨by omega, W4 hinv.2 hx (by rw [hy]; congr 1; simp at h30; exact h30.symm)⟩
    ·omega
  ·intro h18
   have k18 := of_decide_eq_false h18; try simp only [A5] at k18
   have hge : a.length ≤ i := by omega
   have hab : a = b := Y8 heq hinv.2 hge
   refine I4 ?_
   refine A3 (A2 ?_)
   refine A1 rfl rfl rfl (C3 rfl F5) ?_
   refine A4 ?_
   refine C8 ?_
   exact I2 rfl (D1 rfl (by exact congrArg AV.bool (by simp [hab])))
theorem AZ3 (x y : TCell) : FSpec Tryz.prog 210 [AV.agg x.cs, AV.agg y.cs] (AV.bool (decide (x = y))) := by
 refine F3 Tryz.func210 rfl Tryz.ntmps210 rfl ?_
 refine A3 (A2 ?_)
 refine M7 rfl rfl rfl rfl (A0 rfl) ?_
 intro b2
 refine M7 rfl rfl rfl rfl (A0 rfl) ?_
 intro b3
 refine A1 rfl rfl rfl (C3 rfl F5) ?_
 refine A4 (A3 (A2 ?_))
 refine A1 rfl rfl rfl (B3 0 rfl G9 rfl G0 (A0 rfl) rfl) ?_
 refine A1 rfl rfl rfl (B2 1 rfl (A0 rfl) rfl H3 rfl) ?_
 refine A1 rfl rfl rfl (B3 0 rfl G9 rfl G0 (A0 rfl) rfl) ?_
 refine A1 rfl rfl rfl (B2 0 rfl (A0 rfl) rfl H3 rfl) ?_
 refine A1 rfl rfl rfl (s4 rfl (A0 rfl) (A0 rfl)) ?_
 refine A6 rfl rfl rfl rfl rfl ?_
 refine B7 rfl rfl (B9 rfl rfl rfl) (fun hc => B3 1 rfl G9 rfl M9 (A0 rfl) rfl) ?_
 refine B7 rfl rfl (B9 rfl rfl rfl) (fun hc => B2 1 rfl (A9 rfl hc) rfl Q0 rfl) ?_
 refine B7 rfl rfl (B9 rfl rfl rfl) (fun hc => B3 1 rfl G9 rfl M9 (A0 rfl) rfl) ?_
 refine B7 rfl rfl (B9 rfl rfl rfl) (fun hc => B2 0 rfl (A9 rfl hc) rfl Q0 rfl) ?_
 refine B7 rfl rfl (B9 rfl rfl rfl) (fun hc => F1 rfl Tryz.call211 rfl (Ai1 _ _) (A7 (A9 rfl hc) (A7 (A9 rfl hc) D2))) ?_
 refine A1 rfl rfl rfl (H8 rfl (A0 rfl) (G2 rfl)) ?_
 refine C2 rfl rfl rfl rfl rfl ?_
 refine A4 ?_
 refine C8 ?_
 exact I2 rfl (D1 rfl (by exact congrArg AV.bool (by cases x; cases y; simp only [TCell.mk.injEq]; rw [Bool.eq_iff_iff]; simp)))
theorem Ac6 (a b : List TCell) : FSpec Tryz.prog 108 [AV.list 2 (a.map TCell.cs), AV.list 2 (b.map TCell.cs)] (AV.bool (decide (a = b))) := by
 refine F3 Tryz.func108 rfl Tryz.ntmps108 rfl ?_
 refine A3 (A2 ?_)
 refine A1 rfl rfl rfl (C3 rfl F5) ?_
 refine A4 (A3 (A2 ?_))
 refine A6 rfl rfl rfl rfl rfl ?_
 refine A6 rfl rfl rfl rfl rfl ?_
 refine A1 rfl rfl rfl (F1 rfl Tryz.call209 rfl (AQ0 _ _ (fun _ _ => True) (fun _ _ => trivial)) (A7 (A0 rfl) (A7 (A0 rfl) (A7 (AD1 Tryz.call210 (fun x y (_ : True) => AZ3 x y)) D2)))) ?_
 refine C2 rfl rfl rfl rfl rfl ?_
 refine A4 ?_
 refine C8 ?_
 exact I2 rfl (D1 rfl (by first | rfl | (refine congrArg AV.bool ?_; simp_all; done)))
theorem AZ4 (a b : List TCell) (hs : sizeL TCell.size a ≤ 4194304) : FSpec Tryz.prog 87 [AV.list 2 (a.map TCell.cs), AV.list 2 (b.map TCell.cs)] (AV.bool (decide (a = b))) := by
 refine F3 Tryz.func87 rfl Tryz.ntmps87 rfl ?_
 refine Q8 (t := 0) rfl fun hl => ?_
 try simp only [A5] at hl
 refine A3 (A2 ?_)
 refine A1 rfl rfl rfl (C3 rfl F5) ?_
 refine A4 (A3 (A3 (A2 ?_)))
 refine A6 rfl rfl rfl rfl rfl ?_
 refine A1 rfl rfl rfl (G4 rfl E2 (A0 rfl)) ?_
 refine A6 rfl rfl rfl rfl rfl ?_
 refine A1 rfl rfl rfl (G4 rfl E2 (A0 rfl)) ?_
 refine A1 rfl rfl rfl (Z7 rfl (A0 rfl) (A0 rfl)) ?_
 refine A4 ?_
 refine D0 (A0 rfl) ?_ ?_
 ·intro h13
  have k13 := W9 h13; try simp only [A5] at k13
  have hab : a ≠ b := by intro hc; subst hc; exact k13 rfl
  refine A3 (A2 ?_)
  refine A1 rfl rfl rfl (C3 rfl F5) ?_
  refine A4 ?_
  refine C8 ?_
  exact I2 rfl (D1 rfl (by exact congrArg AV.bool (by simp [hab])))
 ·intro h13
  have k13 := S8 h13; try simp only [A5] at k13
  have heq : a.length = b.length := by omega
  refine D5 (A3 (A3 (A2 ?_)))
  refine A6 rfl rfl rfl rfl rfl ?_
  refine A1 rfl rfl rfl (G4 rfl E2 (A0 rfl)) ?_
  refine A1 rfl rfl rfl (C7 rfl C6) ?_
  refine A4 (E1 ?_)
  refine K1 [(1, _), (14, _), (15, _)] _ (fun (i : Nat) => i ≤ a.length ∧ a.take i = b.take i) (fun (i : Nat) => []) (fun (i : Nat) => [(16, AV.int i)]) (fun (i : Nat) => a.length - i) (0) ?_ (J9 ⟨rfl, rfl, rfl, rfl, trivial⟩) ?_
  ·exact ⟨Nat.zero_le _, rfl⟩
  intro i hinv
  refine A3 (A2 ?_)
  refine A1 rfl rfl rfl (M2 rfl (A0 rfl) (A0 rfl)) ?_
  refine A4 (A3 ?_)
  refine D0 (A0 rfl) ?_ ?_
  ·intro h17
   have k17 := of_decide_eq_true h17; try simp only [A5] at k17
   have hlt : i < a.length := by omega
   obtain ⟨x, hx⟩ := get_some hlt
   obtain ⟨y, hy⟩ := get_some (show i < b.length by omega)
   refine D5 (A3 (E1 (A3 (A2 ?_))))
   refine A6 rfl rfl rfl rfl rfl ?_
   refine A1 rfl rfl rfl (J4 rfl E2 F7 (A0 rfl) (A0 rfl) hx (by first | omega | (simp only [A5, B1, B5, C1, B0, szR] at *; omega))) ?_
   refine A1 rfl rfl rfl (K7 rfl (A0 rfl) S7 F7) ?_
   refine F4 rfl rfl rfl rfl Tryz.zeroValue142 rfl ?_
   intro b6
   refine C2 rfl rfl rfl rfl rfl ?_
   refine D3 0 rfl rfl rfl (A0 rfl) (A0 rfl) (D8 _) rfl F7 rfl ?_
   refine A4 (A3 (A2 ?_))
   refine A6 rfl rfl rfl rfl rfl ?_
   refine A6 rfl rfl rfl rfl rfl ?_
   refine A1 rfl rfl rfl (J4 rfl E2 F7 (A0 rfl) (A0 rfl) hy (by first | omega | (simp only [A5, B1, B5, C1, B0, szR] at *; omega))) ?_
   refine A1 rfl rfl rfl (K7 rfl (A0 rfl) S7 F7) ?_
   refine F4 rfl rfl rfl rfl Tryz.zeroValue142 rfl ?_
   intro b7
   refine D3 0 rfl rfl rfl (A0 rfl) (A0 rfl) (D8 _) rfl F7 rfl ?_
   refine A4 (A3 (A3 (A2 ?_)))
   refine A1 rfl rfl rfl (B3 0 rfl G9 rfl G0 (A0 rfl) rfl) ?_
   refine A1 rfl rfl rfl (B2 1 rfl (A0 rfl) rfl H3 rfl) ?_
   refine A1 rfl rfl rfl (B3 0 rfl G9 rfl G0 (A0 rfl) rfl) ?_
   refine A1 rfl rfl rfl (B2 0 rfl (A0 rfl) rfl H3 rfl) ?_
   refine A1 rfl rfl rfl (AE1 rfl (A0 rfl) (A0 rfl)) ?_
   refine A6 rfl rfl rfl rfl rfl ?_
   refine B7 rfl rfl (D6 rfl rfl rfl) (fun hc => B3 1 rfl G9 rfl M9 (A0 rfl) rfl) ?_
   refine B7 rfl rfl (D6 rfl rfl rfl) (fun hc => B2 1 rfl (A9 rfl hc) rfl Q0 rfl) ?_
   refine B7 rfl rfl (D6 rfl rfl rfl) (fun hc => G4 rfl I7 (A9 rfl hc)) ?_
   refine B7 rfl rfl (D6 rfl rfl rfl) (fun hc => B3 1 rfl G9 rfl M9 (A0 rfl) rfl) ?_
   refine B7 rfl rfl (D6 rfl rfl rfl) (fun hc => B2 0 rfl (A9 rfl hc) rfl Q0 rfl) ?_
   refine B7 rfl rfl (D6 rfl rfl rfl) (fun hc => G4 rfl I7 (A9 rfl hc)) ?_
   refine B7 rfl rfl (D6 rfl rfl rfl) (fun hc => Z7 rfl (A9 rfl hc) (A9 rfl hc)) ?_
   refine A1 rfl rfl rfl (R4 rfl (A0 rfl) (G2 rfl)) ?_
   refine A4 ?_
   refine D0 (A0 rfl) ?_ ?_
   ·intro h38
    have hab : a ≠ b := by intro hc; subst hc; rw [hx] at hy; injection hy with hy; subst hy; simp at h38
    refine A3 (A2 ?_)
    refine A1 rfl rfl rfl (C3 rfl F5) ?_
    refine A4 ?_
    refine C8 ?_
    exact I2 rfl (D1 rfl (by exact congrArg AV.bool (by simp [hab])))
   ·intro h38
    have hke : x.Key = y.Key ∧ x.Vers.length = y.Vers.length := by simp at h38; exact ⟨h38.1, by omega⟩
    refine D5 (A3 (A2 ?_))
    refine A1 rfl rfl rfl (B3 1 rfl G9 rfl M9 (A0 rfl) rfl) ?_
    refine A1 rfl rfl rfl (B2 1 rfl (A0 rfl) rfl Q0 rfl) ?_
    refine A1 rfl rfl rfl (G4 rfl I7 (A0 rfl)) ?_
    refine A1 rfl rfl rfl (C7 rfl C6) ?_
    refine A4 (E1 ?_)
    have hinvo := hinv
    have hxl := (j4 (Nat.le_trans (X9 hx) hs)).2.1
    refine K1 [(1, _), (5, _), (6, _), (7, _), (14, _), (15, _), (16, _), (17, _), (18, _), (19, _), (20, _), (21, _), (22, _), (23, _), (24, _), (25, _), (26, _), (27, _), (28, _), (29, _), (30, _), (38, _), (39, _), (40, _), (41, _)] _ (fun (q : Nat) => q ≤ x.Vers.length ∧ x.Vers.take q = y.Vers.take q) (fun (q : Nat) => []) (fun (q : Nat) => [(42, AV.int q)]) (fun (q : Nat) => x.Vers.length - q) (0) ?_ (J9 ⟨rfl, rfl, rfl, rfl, rfl, rfl, rfl, rfl, rfl, rfl, rfl, rfl, rfl, rfl, rfl, rfl, rfl, rfl, rfl, rfl, rfl, rfl, rfl, rfl, rfl, rfl, trivial⟩) ?_
    ·exact ⟨Nat.zero_le _, rfl⟩
    intro q hinv
    refine A3 (A2 ?_)
    refine A1 rfl rfl rfl (M2 rfl (A0 rfl) (A0 rfl)) ?_
    refine A4 (A3 ?_)
    refine D0 (A0 rfl) ?_ ?_
    ·intro h43
     have k43 := of_decide_eq_true h43; try simp only [A5] at k43
     have hltq : q < x.Vers.length := by omega
     obtain ⟨u, hu⟩ := get_some hltq
     obtain ⟨w, hw⟩ := get_some (show q < y.Vers.length by omega)
     refine D5 (A3 (E1 (A3 (A2 ?_))))
     refine A6 rfl rfl rfl rfl rfl ?_
     refine C2 rfl rfl rfl rfl rfl ?_
     refine A4 (A3 ?_)
     refine J5 (by kernel_rfl) (by kernel_rfl) rfl ?_
     refine B4 rfl rfl (B3 1 rfl G9 rfl M9 (A0 rfl) rfl) ?_
     refine B4 rfl rfl (B2 1 rfl (A0 rfl) rfl Q0 rfl) ?_
     refine B4 rfl rfl (C7 rfl (A0 rfl)) ?_
     refine B4 rfl rfl (J4 rfl I7 O0 (A0 rfl) (A0 rfl) hu (by first | omega | (simp only [A5, B1, B5, C1, B0, szR] at *; omega))) ?_
     refine B4 rfl rfl (K7 rfl (A0 rfl) d5 O0) ?_
     refine B4 rfl rfl (B3 1 rfl G9 rfl M9 (A0 rfl) rfl) ?_
     refine B4 rfl rfl (B2 0 rfl (A0 rfl) rfl Q0 rfl) ?_
     refine B4 rfl rfl (C7 rfl (A0 rfl)) ?_
     refine B4 rfl rfl (J4 rfl I7 O0 (A0 rfl) (A0 rfl) hw (by first | omega | (simp only [A5, B1, B5, C1, B0, szR] at *; omega))) ?_
     refine B4 rfl rfl (K7 rfl (A0 rfl) d5 O0) ?_
     refine B4 rfl rfl (AA2 rfl P8 (by kernel_rfl) (by kernel_rfl) (A0 rfl) (A0 rfl) (R7 (by kernel_rfl) C5 rfl rfl (f7 O3) (R7 (by kernel_rfl) H3 rfl rfl (r7 O2) (R7 (by kernel_rfl) K3 rfl rfl (i5 N7) m6)))) ?_
     refine O5 ?_
     refine D0 (A0 rfl) ?_ ?_
     ·intro h55
      have hab : a ≠ b := by intro hc; subst hc; rw [hx] at hy; injection hy with hy; subst hy; rw [hu] at hw; injection hw with hw; subst hw; simp at h55
      refine A3 (A2 ?_)
      refine A1 rfl rfl rfl (C3 rfl F5) ?_
      refine A4 ?_
      refine C8 ?_
      exact I2 rfl (D1 rfl (by exact congrArg AV.bool (by simp [hab])))
     ·intro h55
      refine D5 (A2 ?_)
      refine A1 rfl rfl rfl (H4 rfl (A0 rfl) C6 (by first | omega | (simp only [A5, B1, B5, C1, B0, szR] at *; omega))) ?_
      refine A6 rfl rfl rfl rfl rfl ?_
      refine A4 ?_
      refine M3 q (q + 1) ?_ ?_ (J9 ⟨rfl, rfl, rfl, rfl, rfl, rfl, rfl, rfl, rfl, rfl, rfl, rfl, rfl, rfl, rfl, rfl, rfl, rfl, rfl, rfl, rfl, rfl, rfl, rfl, rfl, rfl, trivial⟩)
      ·exact ⟨by omega, W4 hinv.2 hu (by rw [hw]; congr 1; first | (simp_all; done) | (cases u; cases w; simp_all))⟩
      ·omega
    ·intro h43
     have k43 := of_decide_eq_false h43; try simp only [A5] at k43
     have hgq : x.Vers.length ≤ q := by omega
     have hxv := Y8 hke.2 hinv.2 hgq
     have hxy : x = y := by cases x; cases y; simp only [TCell.mk.injEq]; exact ⟨hke.1, hxv⟩
     refine I4 ?_
     refine A2 ?_
     refine A1 rfl rfl rfl (H4 rfl (A0 rfl) C6 (by first | omega | (simp only [A5, B1, B5, C1, B0, szR] at *; omega))) ?_
     refine A6 rfl rfl rfl rfl rfl ?_
     refine A4 ?_
     refine M3 i (i + 1) ?_ ?_ (U9 2 ⟨rfl, rfl, rfl, rfl, trivial⟩)
     ·exact ⟨by omega, W4 hinvo.2 hx (by rw [hy, hxy])⟩
     ·omega
  ·intro h17
   have k17 := of_decide_eq_false h17; try simp only [A5] at k17
   have hge : a.length ≤ i := by omega
   have hab : a = b := Y8 heq hinv.2 hge
   refine I4 ?_
   refine A3 (A2 ?_)
   refine A1 rfl rfl rfl (C3 rfl F5) ?_
   refine A4 ?_
   refine C8 ?_
   exact I2 rfl (D1 rfl (by exact congrArg AV.bool (by simp [hab])))
end Go.Proofs.YtnlhbdkcgaeimaaGreat

set_option linter.unusedVariables false
set_option linter.unusedSimpArgs false
namespace Go.AV
section
variable {P : Program} {G : Nat → Prop} {n : Nat} {own : List Own} {o : Oper}
theorem Ag5 {rest : List Own} : ∀ b, (fun _ : Nat => False) b → b ∈ rest.filterMap Own.blk := fun _ h => h.elim
theorem P6 {rest : List Own} : ∀ b, blksOf [] b → b ∈ rest.filterMap Own.blk := fun _ ⟨_, h, _⟩ => by simp at h
theorem U6 {q q' : Own} {ow rest : List Own} (i : Nat) (h : rest[i]? = some q') (hb : Own.blk q = Own.blk q') (k : ∀ b, blksOf ow b → b ∈ rest.filterMap Own.blk) : ∀ b, blksOf (q :: ow) b → b ∈ rest.filterMap Own.blk := fun b ⟨x, hx, hxb⟩ => by
  rcases List.mem_cons.1 hx with rfl | hx
  · exact List.mem_filterMap.2 ⟨q', H2 h, hb ▸ hxb⟩
  · exact k b ⟨x, hx, hxb⟩
theorem AL7 {sel rest : List Own} {w0 : World} {R0 R : RHeap} {w : World} (h : Core G w0 R0 (sel ++ rest) R w) (hG : ∀ b, G b → b ∈ rest.filterMap Own.blk) : Core G w0 R0 rest (lend sel w R) w := by
  have hl := V7 h
  refine ⟨h.os, h.tape, h.output, h.size, h.block, AR7 hl, fun b hb => ?_, fun q hq => ?_, fun q hq => h.fresh q (List.mem_append_right _ hq), (AK5 h).sep⟩
  · unfold lend
    cases hob : ownB sel b with
    | true =>
      obtain ⟨x, hx, hxb⟩ := n3 hob
      rcases h.fresh x (List.mem_append_left _ hx) b hxb with h1 | h1
      · omega
      · obtain ⟨y, hy, hyb⟩ := List.mem_filterMap.1 (hG b h1)
        exact absurd hyb (AA5 h.sep hx hy hxb)
    | false => exact h.rold b hb
  · have hk := h.owned q (List.mem_append_right _ hq)
    refine Own.ok_keep hk (i4 hl) fun b hb => ⟨rfl, ?_⟩
    unfold lend
    cases hob : ownB sel b with
    | true =>
      obtain ⟨x, hx, hxb⟩ := n3 hob
      exact absurd hb (AA5 h.sep hx hq hxb)
    | false => exact (Own.ok_blk hk hb).1
theorem d8 {env : List (Nat × AV)} {sel rest : List Own} {x y : AV} (is : List Nat) (t : Nat) (hp : pick own is = (sel, rest)) (ht : getv t env = some x) (hl : LendTo sel x y) (hG : ∀ b, G b → b ∈ rest.filterMap Own.blk) : Le G n ⟨own, env⟩ ⟨rest, (t, y) :: env⟩ := fun w0 R0 R a w ⟨h1, h2, h3⟩ => by
  have hc := k5 h1 hp
  refine ⟨lend sel w R, i4 (V7 hc), AL7 hc hG, fun k z hz => ?_, h3⟩
  simp only [getv] at hz
  by_cases hk : t = k
  · subst hk
    simp [Nat.beq_refl] at hz
    rw [← hz]
    exact hl G w0 R0 R w _ (V7 hc) (h2 t x ht)
  · rw [o0 hk, cond_false] at hz
    exact z.mono (i4 (V7 hc)) (h2 k z hz)
theorem n7 {ops : Array Oper} {rest : List Oper} {env : List (Nat × AV)} {K : AState → Prop} {d : Nat} {c : Bool} (hd : o.dst = some d) (hn : Nat.blt d n = true) (hg : GuardIs ops o (getv · env) c)
    (ht : c = true → ASeq P G n ops ({ o with guard := none } :: rest) ⟨own, env⟩ K) (hf : c = false → ASeq P G n ops rest ⟨own, (d, AV.is undef) :: env⟩ K) : ASeq P G n ops (o :: rest) ⟨own, env⟩ K := fun w0 R0 R a w hs => by
  have hgc := hg R a fun t _ y hy => hs.2.1 t y hy
  cases c with
  | true =>
    refine ⟨fun _ => ?_, fun hw => by rw [hgc] at hw; exact Bool.noConfusion hw⟩
    exact (ht rfl w0 R0 R a w hs).1 rfl
  | false =>
    refine ⟨fun hw => by rw [hgc] at hw; exact Bool.noConfusion hw, fun _ => ⟨_, R, hf rfl, RSub.refl _, ?_⟩⟩
    obtain ⟨h1, h2, h3, h4⟩ := hs
    refine ⟨h1, ?_, by rw [T0]; exact h3, by rw [Q4]; exact h4⟩
    have := c5 (d := o.dst) (x := AV.is undef) (v := undef) h2 (RSub.refl R) (fun q e => by rw [h3]; rw [hd] at e; injection e with e; subst e; exact Nat.blt_eq.mp hn) rfl
    rw [hd] at this ⊢
    exact this
theorem AD9 {E : EnvF} {p : Operand} {b : Bool} {x : AV} (h : b = false) : EvIf E p b x := fun hb => by rw [h] at hb; cases hb
def bandI (x y : Int) : Int := IntKind.u64.wrap (((BitVec.ofInt IntKind.u64.bits x &&& BitVec.ofInt IntKind.u64.bits y).toNat : Nat) : Int)
theorem w_band {E : EnvF} {t ty : TypeId} {p q : Operand} {x y : Int} (ho : o.op = .binOp .and t p q ty) (hp : Ev E p (AV.ik .u64 x)) (hq : Ev E q (AV.ik .u64 y)) : OpW P G n own o E (AV.ik .u64 (bandI x y)) := O7 fun R a w _ he => by
  have h1 : a.eval p = .int .u64 x := J0 hp (by simp [ho, Op.operands]) he
  have h2 : a.eval q = .int .u64 y := J0 hq (by simp [ho, Op.operands]) he
  exact ⟨.int .u64 (bandI x y), by simp only [execOp, ho, h1, h2]; simp [go_sem]; rfl, rfl⟩
end
end Go.AV
