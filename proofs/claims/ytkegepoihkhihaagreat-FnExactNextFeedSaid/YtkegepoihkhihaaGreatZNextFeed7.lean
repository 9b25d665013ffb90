/- FnExactNextFeed: for all arguments the program's NextFeed answers what the reference's answers, in memory of its own. No condition. -/
import Derived.ProofKit
import Derived.OpenShut
import Derived.ShutString
import Derived.ChangeOld
import Derived.Test.YtkegepoihkhihaaGreatZNextFeed6

set_option linter.unusedVariables false
set_option linter.unusedSimpArgs false
set_option maxRecDepth 100000
set_option maxHeartbeats 1000000
namespace Go.Proofs.YtkegepoihkhihaaGreat
open Go Go.AV Go.M
attribute [local irreducible] OpW OpA OpS AWP FSpec ESpec GSpec OpE RetOk RetOkG RvDen Le Ev GuardIs SrcIs
theorem THeld.lcM {own : List Own} (p : THeld) (x : Value × Value) (h : ∀ o ∈ THeld.ow p x, o ∈ own) : LendC own (THeld.ocs p x) p.cs := W3 k0 (W3 k0 (W3 k0 (W3 (d5 (h _ (H5 (i := 0) rfl)) W8) (W3 (d5 (h _ (H5 (i := 1) rfl)) W8) AA6))))
theorem As4 (a : THeld) (hs : a.size ≤ 1048576) : GSpec Tryz.prog 89 [AV.agg a.cs] [] (fun _ : Value × Value => True) (fun x => THeld.ow a x) (fun x => AV.agg (THeld.ocs a x)) := by
 unfold THeld.size at hs
 refine K4 Tryz.func89 rfl Tryz.ntmps89 rfl ?_
 refine A3 (A2 ?_)
 refine I6 rfl rfl rfl rfl (A0 rfl) ?_
 intro b1
 refine I2 rfl rfl rfl rfl Tryz.zeroValue141 rfl ?_
 intro b2
 refine A4 (A3 (A2 ?_))
 refine I2 rfl rfl rfl rfl Tryz.zeroValue141 rfl ?_
 intro b3
 refine A4 (A3 (A2 ?_))
 refine A1 rfl (B5 0 rfl N7 rfl B9 (A0 rfl) rfl) ?_
 refine A1 rfl (B2 2 rfl (A0 rfl) rfl D1 rfl) ?_
 refine A1 rfl (B5 0 rfl E1 rfl B9 (A0 rfl) rfl) ?_
 refine K2 0 rfl rfl rfl (A0 rfl) (A0 rfl) (P0 _ _) rfl B9 rfl ?_
 refine A4 (A3 (A2 ?_))
 refine A1 rfl (B5 1 rfl N7 rfl B9 (A0 rfl) rfl) ?_
 refine A1 rfl (B2 2 rfl (A0 rfl) rfl D1 rfl) ?_
 refine A1 rfl (B5 1 rfl E1 rfl B9 (A0 rfl) rfl) ?_
 refine K2 0 rfl rfl rfl (A0 rfl) (A0 rfl) (P0 _ _) rfl B9 rfl ?_
 refine A4 (A3 (A2 ?_))
 refine A1 rfl (B5 2 rfl N7 rfl B9 (A0 rfl) rfl) ?_
 refine A1 rfl (B2 2 rfl (A0 rfl) rfl D1 rfl) ?_
 refine A1 rfl (B5 2 rfl E1 rfl B9 (A0 rfl) rfl) ?_
 refine K2 0 rfl rfl rfl (A0 rfl) (A0 rfl) (P0 _ _) rfl B9 rfl ?_
 refine A4 (A3 (A2 ?_))
 refine A1 rfl (B5 3 rfl N7 rfl L0 (A0 rfl) rfl) ?_
 refine A1 rfl (B2 2 rfl (A0 rfl) rfl N4 rfl) ?_
 refine S9 [] rfl rfl rfl rfl Tryz.call134 rfl (AZ6 _ (by first | assumption | omega)) (A8 (A0 rfl) C8) rfl ?_
 intro x15 ok15
 refine A1 rfl (B5 3 rfl E1 rfl L0 (A0 rfl) rfl) ?_
 refine s6 0 rfl fun one_x15 => ?_
 refine K2 1 rfl rfl rfl (A0 rfl) (A0 rfl) (AI0 one_x15) rfl L0 rfl ?_
 refine A4 (A3 (A2 ?_))
 refine A1 rfl (B5 4 rfl N7 rfl Tryz.sizeOf136 (A0 rfl) rfl) ?_
 refine A1 rfl (B2 3 rfl (A0 rfl) rfl Tryz.isAgg136 rfl) ?_
 refine S9 [] rfl rfl rfl rfl Tryz.call135 rfl (Ag2 _ (by first | assumption | omega)) (A8 (A0 rfl) C8) rfl ?_
 intro x19 ok19
 refine A1 rfl (B5 4 rfl E1 rfl J6 (A0 rfl) rfl) ?_
 refine s6 0 rfl fun one_x19 => ?_
 refine K2 2 rfl rfl rfl (A0 rfl) (A0 rfl) (AI0 one_x19) rfl J6 rfl ?_
 refine A4 (A3 (A2 ?_))
 refine A1 rfl (L5 2 rfl (A0 rfl) rfl K5 E8 rfl) ?_
 refine G9 3 rfl rfl rfl (A0 rfl) (A0 rfl) (I7 _) rfl E8 rfl ?_
 refine A4 ?_
 refine B8 ?_
 exact U7 [1, 0] (x15, x19) (trivial) rfl (by rfl) (V6 rfl (S6 (ys := _) 3 rfl rfl K5 E8 rfl))
theorem Al5 (l : List THeld) (hs : sizeL THeld.size l ≤ 1048576) : GSpec Tryz.prog 48 [AV.list 5 (l.map THeld.cs)] [] (fun x : Value × List (Value × Value) => x.2.length = l.length) (fun x => .arr x.1 141 5 (nrows THeld.ocs l x.2) :: nin THeld.ow l x.2) (fun x => AV.is x.1) := by
 have hsl : l.length ≤ 1048576 := Nat.le_trans L4 hs
 refine K4 Tryz.func48 rfl Tryz.ntmps48 rfl ?_
 refine A3 (A2 ?_)
 refine A1 rfl (A7 rfl S0) ?_
 refine A4 (A3 (A2 ?_))
 refine A5 rfl ?_
 refine A1 rfl (E7 rfl Q6 (A0 rfl)) ?_
 refine W1 (by' := 72) rfl rfl rfl rfl F5 Tryz.type141 rfl rfl rfl rfl rfl rfl (A0 rfl) (A0 rfl) (by simp only [A6]; omega) (by simp only [A6]; omega) ?_
 intro v7
 refine B1 rfl ?_
 refine A4 (A3 (A3 (A2 ?_)))
 refine A1 rfl (A7 rfl B4) ?_
 refine A4 (C3 ?_)
 refine J7 [(0, _), (2, _), (3, _)] [] (fun (i : Nat) (xs : List (Value × Value)) => i ≤ l.length ∧ xs.length = i) (fun (i : Nat) (xs : List (Value × Value)) => [.arr v7 141 5 (nrows THeld.ocs (l.take i) xs ++ List.replicate (l.length - i) [AV.int 0, AV.int 0, AV.int 0, AV.nils, AV.nils])] ++ (nin THeld.ow (l.take i) xs)) (fun (i : Nat) (xs : List (Value × Value)) => [(4, AV.int i)]) (fun (i : Nat) (xs : List (Value × Value)) => l.length - i) (0) ([]) ?_ (J9 (by simp only [A6]; rfl) ⟨rfl, rfl, rfl, rfl, trivial⟩) ?_
 ·exact ⟨Nat.zero_le _, rfl⟩
 intro i xs hinv
 refine s7 (List.append_nil _) ?_
 refine A3 (A3 (A2 ?_))
 refine A5 rfl ?_
 refine A5 rfl ?_
 refine A1 rfl (E7 rfl Q6 (A0 rfl)) ?_
 refine A1 rfl (F7 rfl (A0 rfl) (A0 rfl)) ?_
 refine A4 ?_
 refine C0 (A0 rfl) ?_ ?_
 ·intro h11
  have k11 := of_decide_eq_true h11; try simp only [A6] at k11
  have hlt : i < l.length := by omega
  obtain ⟨x, hx⟩ := get_some hlt
  have hsx : THeld.size x ≤ 1048576 := Nat.le_trans (Q1 hx) hs
  refine C1 (A3 (C3 (A2 ?_)))
  refine A5 rfl ?_
  refine A5 rfl ?_
  refine A5 rfl ?_
  refine A5 rfl ?_
  refine A1 rfl (N5 rfl Q6 X9 (A0 rfl) (A0 rfl) (by omega) (by simp only [Int.toNat_natCast, List.getElem?_map, hx, Option.map_some]; try rfl)) ?_
  refine A1 rfl (H0 rfl (A0 rfl) Tryz.isAgg138 X9) ?_
  refine S9 [] rfl rfl rfl rfl Tryz.call89 rfl (As4 _ (by assumption)) (A8 (A0 rfl) C8) rfl ?_
  intro x20 ok20
  refine A1 rfl (K9 2 rfl F5 E8 (A0 rfl) rfl (A0 rfl) (by omega) (by rw [l0 hinv.1 hinv.2]; omega)) ?_
  refine R8 2 rfl rfl rfl (A0 rfl) (A0 rfl) (I7 _) rfl E8 rfl (by rw [l0 hinv.1 hinv.2]; omega) ?_
  refine A4 ?_
  refine AWP.le (P2 [2, 0, 0] rfl) ?_
  refine AWP.le (g6 1 (t := nin THeld.ow (l.take (i + 1)) (xs ++ [x20])) (AL8 (ow := THeld.ow) (x := x20) hx hinv.2)) ?_
  refine A2 ?_
  refine A5 rfl ?_
  refine A1 rfl (E9 rfl (A0 rfl) B4 (by first | omega | (simp only [D3, B0, szR] at *; omega))) ?_
  refine B1 rfl ?_
  refine A4 ?_
  refine J5 i xs (i + 1) (xs ++ [x20]) ?_ ?_ (J9 (Eq.trans (by exact congrArg (fun z => Own.arr _ _ _ z :: _) (AC5 hx hinv.2)) (List.append_nil _).symm) ⟨rfl, rfl, rfl, rfl, trivial⟩)
  ·exact ⟨by omega, by rw [I5, hinv.2]; rfl⟩
  omega
 intro h11
 have k11 := of_decide_eq_false h11; try simp only [A6] at k11
 have hge : i = l.length := by omega
 have hxs := hinv.2.trans hge
 rw [show l.take i = l from List.take_of_length_le (by omega), show l.length - i = 0 by omega, List.replicate_zero, List.append_nil]
 refine F1 ?_
 refine A3 (A2 ?_)
 refine A5 rfl ?_
 refine B1 rfl ?_
 refine A4 ?_
 refine B8 ?_
 exact AC4 [0] 0 (nin THeld.ow l xs) [] (v7, xs) (hxs) rfl (show List.Perm (nin THeld.ow l xs) ((nin THeld.ow l xs) ++ []) from d9) (by rfl) (V6 rfl (B7 rfl (by first | rfl | (refine congrArg AV.bool ?_; simp_all; done))))
theorem AU3 (v : Value) (l : List THeld) (xs : List (Value × Value)) (k : Int) (hl : xs.length = l.length) (h : 0 ≤ k ∧ countN THeld.markEN l k ≤ 4611686018427387904) : GSpec Tryz.prog 59 [AV.is v, AV.int k] (.arr v 141 5 (nrows THeld.ocs l xs) :: nin THeld.ow l xs) (fun _ : Unit => True) (fun _ => .arr v 141 5 (nrows THeld.ocs (marksN THeld.markE THeld.markEN l k) xs) :: nin THeld.ow (marksN THeld.markE THeld.markEN l k) xs) (fun _ => AV.int (countN THeld.markEN l k)) := by
 have hll := s3 THeld.markEN_le1 l k
 refine K4 Tryz.func59 rfl Tryz.ntmps59 rfl ?_
 refine A3 (A2 ?_)
 refine A1 rfl (A7 rfl B4) ?_
 refine A4 (A3 (A3 (A2 ?_)))
 refine A1 rfl (A7 rfl B4) ?_
 refine A4 (C3 ?_)
 refine J7 [(0, _), (4, _)] [] (fun (i : Nat) (c : Int) => i ≤ l.length ∧ c = countN THeld.markEN (l.take i) k) (fun (i : Nat) (c : Int) => [.arr v 141 5 (nrows THeld.ocs (midN THeld.markE THeld.markEN l k i) xs)] ++ (nin THeld.ow (midN THeld.markE THeld.markEN l k i) xs)) (fun (i : Nat) (c : Int) => [(1, AV.int c), (5, AV.int i)]) (fun (i : Nat) (c : Int) => l.length - i) (0) (k) ?_ (J9 (by rw [AG2, List.append_nil]; rfl) ⟨rfl, rfl, rfl, rfl, trivial⟩) ?_
 ·exact ⟨Nat.zero_le _, rfl⟩
 intro i c hinv
 refine s7 (List.append_nil _) ?_
 refine A3 (A3 (A2 ?_))
 refine A5 rfl ?_
 refine A5 rfl ?_
 refine A1 rfl (V3 0 rfl F5 (A0 rfl) rfl) ?_
 refine A1 rfl (F7 rfl (A0 rfl) (A0 rfl)) ?_
 refine A4 ?_
 refine C0 (A0 rfl) ?_ ?_
 ·intro h9
  have k9 := of_decide_eq_true h9; try simp only [A6] at k9
  simp only [X0 (hl.trans (L7 hinv.1).symm), L7 hinv.1] at k9
  have hlt : i < l.length := by omega
  obtain ⟨p0, hq⟩ := get_some hlt
  have hp := AM0 (mk := THeld.markE) (mn := THeld.markEN) (k := k) hq
  obtain ⟨x, hx⟩ := get_some (show i < xs.length by omega)
  have hstep := AG3 (mk := THeld.markE) (mn := THeld.markEN) (k := k) hq
  rw [← hinv.2] at hstep
  have hct := Y6 THeld.markEN_le l (i + 1) k
  have hc0 := Y6 THeld.markEN_le l i k
  rw [Y5 hq, ← hinv.2] at hct
  rw [← hinv.2] at hc0
  have hce : THeld.markEN p0 c = c + 1 + 1 + 1 + 1 * p0.Reads.length + 3 * p0.Writes.length := rfl
  rw [i7 hp hx]
  refine C1 (A3 (C3 (A3 ?_)))
  refine AWP.le (g6 1 (t := (THeld.ow p0 x) ++ (nin THeld.ow ((midN THeld.markE THeld.markEN l k i).eraseIdx i) (xs.eraseIdx i))) (s8 (ow := THeld.ow) hp hx)) ?_
  refine A2 ?_
  refine A5 rfl ?_
  refine A5 rfl ?_
  refine A5 rfl ?_
  refine A1 rfl (K9 0 rfl F5 E8 (A0 rfl) rfl (A0 rfl) (by omega) (by rw [U3 hp hx (hl.trans (L7 hinv.1).symm), L7 hinv.1]; omega)) ?_
  refine A1 rfl (R7 0 rfl E1 rfl B9 (A0 rfl) rfl rfl (N9 (N6 hp hx))) ?_
  refine P1 0 rfl rfl rfl (A0 rfl) (A0 rfl) (P0 _ _) rfl B9 (N6 hp hx) rfl ?_
  refine A4 (A3 (A2 ?_))
  refine A5 rfl ?_
  refine A1 rfl (E9 rfl (A0 rfl) B4 (by first | omega | (simp only [D3, B0, szR] at *; omega))) ?_
  refine B1 rfl ?_
  refine A4 (A3 (A2 ?_))
  refine A5 rfl ?_
  refine A5 rfl ?_
  refine A5 rfl ?_
  refine A1 rfl (K9 0 rfl F5 E8 (A0 rfl) rfl (A0 rfl) (by omega) (by rw [U3 hp hx (hl.trans (L7 hinv.1).symm), L7 hinv.1]; omega)) ?_
  refine A1 rfl (R7 0 rfl E1 rfl B9 (A0 rfl) rfl rfl (N9 (N6 hp hx))) ?_
  refine P1 0 rfl rfl rfl (A0 rfl) (A0 rfl) (P0 _ _) rfl B9 (N6 hp hx) rfl ?_
  refine A4 (A3 (A2 ?_))
  refine A5 rfl ?_
  refine A1 rfl (E9 rfl (A0 rfl) B4 (by first | omega | (simp only [D3, B0, szR] at *; omega))) ?_
  refine B1 rfl ?_
  refine A4 (A3 (A2 ?_))
  refine A5 rfl ?_
  refine A5 rfl ?_
  refine A5 rfl ?_
  refine A1 rfl (K9 0 rfl F5 E8 (A0 rfl) rfl (A0 rfl) (by omega) (by rw [U3 hp hx (hl.trans (L7 hinv.1).symm), L7 hinv.1]; omega)) ?_
  refine A1 rfl (R7 0 rfl E1 rfl B9 (A0 rfl) rfl rfl (N9 (N6 hp hx))) ?_
  refine P1 0 rfl rfl rfl (A0 rfl) (A0 rfl) (P0 _ _) rfl B9 (N6 hp hx) rfl ?_
  refine A4 (A3 (A2 ?_))
  refine A5 rfl ?_
  refine A1 rfl (E9 rfl (A0 rfl) B4 (by first | omega | (simp only [D3, B0, szR] at *; omega))) ?_
  refine B1 rfl ?_
  refine A4 (A3 (A2 ?_))
  refine A5 rfl ?_
  refine A5 rfl ?_
  refine A1 rfl (K9 0 rfl F5 E8 (A0 rfl) rfl (A0 rfl) (by omega) (by rw [U3 hp hx (hl.trans (L7 hinv.1).symm), L7 hinv.1]; omega)) ?_
  refine A1 rfl (R7 0 rfl E1 rfl L0 (A0 rfl) rfl rfl (N9 (N6 hp hx))) ?_
  refine A1 rfl (n4 0 rfl (A0 rfl) rfl N4 (N9 (N6 hp hx)) rfl) ?_
  refine A5 rfl ?_
  refine S9 [1] rfl rfl rfl rfl Tryz.call99 rfl (AM8 _ _ _ (by first | assumption | first | omega | (refine ⟨by omega, ?_⟩; simp only [H2] at *; omega))) (A8 (A0 rfl) (A8 (A0 rfl) C8)) rfl ?_
  intro x39 ok39
  refine B1 rfl ?_
  refine A4 (A2 ?_)
  refine A5 rfl ?_
  refine A5 rfl ?_
  refine A1 rfl (K9 1 rfl F5 E8 (A0 rfl) rfl (A0 rfl) (by omega) (by rw [U3 hp hx (hl.trans (L7 hinv.1).symm), L7 hinv.1]; omega)) ?_
  refine A1 rfl (R7 1 rfl E1 rfl J6 (A0 rfl) rfl rfl (N9 (N6 hp hx))) ?_
  refine A1 rfl (n4 1 rfl (A0 rfl) rfl K6 (N9 (N6 hp hx)) rfl) ?_
  refine A5 rfl ?_
  refine S9 [2] rfl rfl rfl rfl Tryz.call100 rfl (AP5 _ _ _ (by first | assumption | first | omega | (refine ⟨by omega, ?_⟩; simp only [H2] at *; omega))) (A8 (A0 rfl) (A8 (A0 rfl) C8)) rfl ?_
  intro x46 ok46
  refine B1 rfl ?_
  refine A4 ?_
  refine AWP.le (P2 [2, 1, 0] rfl) ?_
  refine AWP.le (g6 1 (t := nin THeld.ow (midN THeld.markE THeld.markEN l k (i + 1)) xs) ((hstep ▸ AR8 (ow := THeld.ow) (p' := THeld.markE p0 c) hp hx))) ?_
  refine A2 ?_
  refine A5 rfl ?_
  refine A1 rfl (E9 rfl (A0 rfl) B4 (by first | omega | (simp only [D3, B0, szR] at *; omega))) ?_
  refine B1 rfl ?_
  refine A4 ?_
  refine J5 i c (i + 1) (THeld.markEN p0 c) ?_ ?_ (J9 (Eq.trans (by exact congrArg (fun z => Own.arr _ _ _ z :: _) ((AC6 hp hx).trans (congrArg (fun z => nrows THeld.ocs z xs) hstep))) (List.append_nil _).symm) ⟨rfl, rfl, rfl, rfl, trivial⟩)
  ·exact ⟨by omega, by rw [Y5 hq, hinv.2]⟩
  omega
 intro h9
 have k9 := of_decide_eq_false h9; try simp only [A6] at k9
 simp only [X0 (hl.trans (L7 hinv.1).symm), L7 hinv.1] at k9
 have hge : l.length ≤ i := by omega
 rw [AL9 hge]
 refine F1 ?_
 refine A3 (A2 ?_)
 refine A5 rfl ?_
 refine B1 rfl ?_
 refine A4 ?_
 refine B8 ?_
 exact AC4 [0] 0 (nin THeld.ow (marksN THeld.markE THeld.markEN l k) xs) [] () (trivial) rfl (show List.Perm (nin THeld.ow (marksN THeld.markE THeld.markEN l k) xs) ((nin THeld.ow (marksN THeld.markE THeld.markEN l k) xs) ++ []) from d9) (by rfl) (V6 rfl (B7 rfl (by exact congrArg AV.int (by rw [hinv.2, List.take_of_length_le hge]))))
abbrev StX : Type := (Value × List Value) × (Value × List (Value × Value)) × Value
def TState.fit (s : TState) (x : StX) : Prop := x.1.2.length = s.Cells.length ∧ x.2.1.2.length = s.Held.length
def TState.ocs4 (s : TState) (x : StX) : List AV := [AV.int s.Floor, AV.is x.1.1, AV.is x.2.1.1, AV.is x.2.2]
def TState.ow4 (s : TState) (x : StX) : List Own := .arr x.1.1 125 2 (nrows TCell.ocs s.Cells x.1.2) :: .arr x.2.1.1 141 5 (nrows THeld.ocs s.Held x.2.1.2) :: .arr x.2.2 144 3 (s.Told.map TTold.cs) :: (nin THeld.ow s.Held x.2.1.2 ++ (nin TCell.ow s.Cells x.1.2))
theorem TState.lcM4 {own : List Own} (s : TState) (x : StX) (hx : TState.fit s x) (h : ∀ o ∈ TState.ow4 s x, o ∈ own) : LendC own (TState.ocs4 s x) s.cs := by
  have h0 := h _ (H5 (i := 0) rfl)
  have h1 := h _ (H5 (i := 1) rfl)
  have h2 := h _ (H5 (i := 2) rfl)
  obtain ⟨i0, e0⟩ := List.getElem?_of_mem h0
  obtain ⟨i1, e1⟩ := List.getElem?_of_mem h1
  exact W3 k0 (W3 (Ac7 TCell.lcM hx.1 i0 e0 fun o ho => h o (List.mem_cons_of_mem _ (List.mem_cons_of_mem _ (List.mem_cons_of_mem _ (List.mem_append_right _ ho))))) (W3 (Ac7 THeld.lcM hx.2 i1 e1 fun o ho => h o (List.mem_cons_of_mem _ (List.mem_cons_of_mem _ (List.mem_cons_of_mem _ (List.mem_append_left _ ho))))) (W3 (d5 h2 W8) AA6)))
theorem Al6 (a : TState) (hs : a.size ≤ 1048576) : GSpec Tryz.prog 16 [AV.agg a.cs] [] (fun x : StX => TState.fit a x) (fun x => TState.ow4 a x) (fun x => AV.agg (TState.ocs4 a x)) := by
 unfold TState.size at hs
 refine K4 Tryz.func16 rfl Tryz.ntmps16 rfl ?_
 refine A3 (A2 ?_)
 refine I6 rfl rfl rfl rfl (A0 rfl) ?_
 intro b1
 refine I2 rfl rfl rfl rfl Tryz.zeroValue43 rfl ?_
 intro b2
 refine A4 (A3 (A2 ?_))
 refine I2 rfl rfl rfl rfl Tryz.zeroValue43 rfl ?_
 intro b3
 refine A4 (A3 (A2 ?_))
 refine A1 rfl (B5 0 rfl O7 rfl B9 (A0 rfl) rfl) ?_
 refine A1 rfl (B2 2 rfl (A0 rfl) rfl D1 rfl) ?_
 refine A1 rfl (B5 0 rfl E3 rfl B9 (A0 rfl) rfl) ?_
 refine K2 0 rfl rfl rfl (A0 rfl) (A0 rfl) (P0 _ _) rfl B9 rfl ?_
 refine A4 (A3 (A2 ?_))
 refine A1 rfl (B5 1 rfl O7 rfl Tryz.sizeOf30 (A0 rfl) rfl) ?_
 refine A1 rfl (B2 2 rfl (A0 rfl) rfl Tryz.isAgg30 rfl) ?_
 refine e6 [] 3 1 ([]) ([]) (fun zz => nin TCell.ow a.Cells zz.2) rfl rfl rfl rfl Tryz.call47 rfl rfl (show List.Perm ([]) (([]) ++ ([])) from List.Perm.refl _) (Al4 a.Cells (by omega)) (A8 (A0 rfl) C8) (fun a => AL7) ?_
 intro x9 ok9
 refine A1 rfl (B5 1 rfl E3 rfl L6 (A0 rfl) rfl) ?_
 refine s6 0 rfl fun one_x9_1 => ?_
 refine K2 1 rfl rfl rfl (A0 rfl) (A0 rfl) (AI0 one_x9_1) rfl L6 rfl ?_
 refine A4 (A3 (A2 ?_))
 refine A1 rfl (B5 2 rfl O7 rfl Tryz.sizeOf31 (A0 rfl) rfl) ?_
 refine A1 rfl (B2 3 rfl (A0 rfl) rfl Tryz.isAgg31 rfl) ?_
 refine e6 [] 4 1 ([]) (nin TCell.ow a.Cells x9.2) (fun zz => nin THeld.ow a.Held zz.2 ++ (nin TCell.ow a.Cells x9.2)) rfl rfl rfl rfl Tryz.call48 rfl rfl (show List.Perm (nin TCell.ow a.Cells x9.2) (([]) ++ (nin TCell.ow a.Cells x9.2)) from List.Perm.refl _) (Al5 a.Held (by omega)) (A8 (A0 rfl) C8) (fun a => List.Perm.refl _) ?_
 intro x13 ok13
 refine A1 rfl (B5 2 rfl E3 rfl M9 (A0 rfl) rfl) ?_
 refine s6 0 rfl fun one_x13_1 => ?_
 refine K2 2 rfl rfl rfl (A0 rfl) (A0 rfl) (AI0 one_x13_1) rfl M9 rfl ?_
 refine A4 (A3 (A2 ?_))
 refine A1 rfl (B5 3 rfl O7 rfl Tryz.sizeOf32 (A0 rfl) rfl) ?_
 refine A1 rfl (B2 4 rfl (A0 rfl) rfl Tryz.isAgg32 rfl) ?_
 refine S9 [] rfl rfl rfl rfl Tryz.call49 rfl (Ak7 a.Told (by omega)) (A8 (A0 rfl) C8) rfl ?_
 intro x17 ok17
 refine A1 rfl (B5 3 rfl E3 rfl Q9 (A0 rfl) rfl) ?_
 refine s6 0 rfl fun one_x17 => ?_
 refine K2 3 rfl rfl rfl (A0 rfl) (A0 rfl) (AI0 one_x17) rfl Q9 rfl ?_
 refine A4 (A3 (A2 ?_))
 refine A1 rfl (L5 3 rfl (A0 rfl) rfl N3 I0 rfl) ?_
 refine G9 4 rfl rfl rfl (A0 rfl) (A0 rfl) (I7 _) rfl I0 rfl ?_
 refine A4 ?_
 refine B8 ?_
 exact AC4 [2, 1, 0] 3 (nin THeld.ow a.Held x13.2 ++ (nin TCell.ow a.Cells x9.2)) [] (x9, x13, x17) (⟨ok9, ok13⟩) rfl (show List.Perm (nin THeld.ow a.Held x13.2 ++ (nin TCell.ow a.Cells x9.2)) ((nin THeld.ow a.Held x13.2 ++ (nin TCell.ow a.Cells x9.2)) ++ []) from d9) (by rfl) (V6 rfl (S6 (ys := _) 4 rfl rfl N3 I0 rfl))
theorem st_get {l : List TState} {xs : List StX} {i : Nat} {p : TState} {x : StX} (hp : l[i]? = some p) (hx : xs[i]? = some x) : (nin TState.ow4 l xs).Perm ([.arr x.1.1 125 2 (nrows TCell.ocs p.Cells x.1.2), .arr x.2.1.1 141 5 (nrows THeld.ocs p.Held x.2.1.2), .arr x.2.2 144 3 (p.Told.map TTold.cs)] ++ (nin THeld.ow p.Held x.2.1.2 ++ (nin TCell.ow p.Cells x.1.2 ++ nin TState.ow4 (l.eraseIdx i) (xs.eraseIdx i)))) := by
  have h := s8 (ow := TState.ow4) hp hx
  simp only [TState.ow4, AN2, List.append_assoc] at h
  exact h
theorem st_set {l : List TState} {xs : List StX} {i : Nat} {p p' : TState} {x : StX} (hp : l[i]? = some p) (hx : xs[i]? = some x) : ([Own.arr x.1.1 125 2 (nrows TCell.ocs p'.Cells x.1.2), Own.arr x.2.1.1 141 5 (nrows THeld.ocs p'.Held x.2.1.2), Own.arr x.2.2 144 3 (p'.Told.map TTold.cs)] ++ (nin THeld.ow p'.Held x.2.1.2 ++ (nin TCell.ow p'.Cells x.1.2 ++ nin TState.ow4 (l.eraseIdx i) (xs.eraseIdx i)))).Perm (nin TState.ow4 (l.set i p') xs) := by
  have h := AR8 (ow := TState.ow4) (p' := p') hp hx
  simp only [TState.ow4, AN2, List.append_assoc] at h
  exact h
theorem fit_snoc {l : List TState} {xs : List StX} {i : Nat} {x : TState} {y : StX} (hx : l[i]? = some x) (hl : xs.length = i) (h : ∀ (j : Nat) (s : TState) (z : StX), l[j]? = some s → xs[j]? = some z → TState.fit s z) (hy : TState.fit x y) : ∀ (j : Nat) (s : TState) (z : StX), l[j]? = some s → (xs ++ [y])[j]? = some z → TState.fit s z := fun j s z hs hz => by
  by_cases hj : j < xs.length
  · rw [List.getElem?_append_left hj] at hz; exact h j s z hs hz
  · rw [List.getElem?_append_right (by omega)] at hz
    by_cases he : j = xs.length
    · subst he
      rw [Nat.sub_self] at hz
      rw [hl, hx] at hs
      injection hs with hs; injection hz with hz; subst hs; subst hz; exact hy
    · rw [List.getElem?_eq_none (by simp; omega)] at hz; cases hz
theorem Ah3 (l : List TState) (hs : sizeL TState.size l ≤ 1048576) : GSpec Tryz.prog 11 [AV.list 4 (l.map TState.cs)] [] (fun x : Value × List StX => x.2.length = l.length ∧ ∀ (j : Nat) (s : TState) (z : StX), l[j]? = some s → x.2[j]? = some z → TState.fit s z) (fun x => .arr x.1 43 4 (nrows TState.ocs4 l x.2) :: nin TState.ow4 l x.2) (fun x => AV.is x.1) := by
 have hsl : l.length ≤ 1048576 := Nat.le_trans L4 hs
 refine K4 Tryz.func11 rfl Tryz.ntmps11 rfl ?_
 refine A3 (A2 ?_)
 refine A1 rfl (A7 rfl S0) ?_
 refine A4 (A3 (A2 ?_))
 refine A5 rfl ?_
 refine A1 rfl (E7 rfl P5 (A0 rfl)) ?_
 refine W1 (by' := 80) rfl rfl rfl rfl I4 Tryz.type43 rfl rfl rfl rfl rfl rfl (A0 rfl) (A0 rfl) (by simp only [A6]; omega) (by simp only [A6]; omega) ?_
 intro v7
 refine B1 rfl ?_
 refine A4 (A3 (A3 (A2 ?_)))
 refine A1 rfl (A7 rfl B4) ?_
 refine A4 (C3 ?_)
 refine J7 [(0, _), (2, _), (3, _)] [] (fun (i : Nat) (xs : List StX) => i ≤ l.length ∧ xs.length = i ∧ ∀ (j : Nat) (s : TState) (z : StX), l[j]? = some s → xs[j]? = some z → TState.fit s z) (fun (i : Nat) (xs : List StX) => [.arr v7 43 4 (nrows TState.ocs4 (l.take i) xs ++ List.replicate (l.length - i) [AV.int 0, AV.nils, AV.nils, AV.nils])] ++ (nin TState.ow4 (l.take i) xs)) (fun (i : Nat) (xs : List StX) => [(4, AV.int i)]) (fun (i : Nat) (xs : List StX) => l.length - i) (0) ([]) ?_ (J9 (by simp only [A6]; rfl) ⟨rfl, rfl, rfl, rfl, trivial⟩) ?_
 ·exact ⟨Nat.zero_le _, rfl, fun j s z _ h => by simp at h⟩
 intro i xs hinv
 refine s7 (List.append_nil _) ?_
 refine A3 (A3 (A2 ?_))
 refine A5 rfl ?_
 refine A5 rfl ?_
 refine A1 rfl (E7 rfl P5 (A0 rfl)) ?_
 refine A1 rfl (F7 rfl (A0 rfl) (A0 rfl)) ?_
 refine A4 ?_
 refine C0 (A0 rfl) ?_ ?_
 ·intro h11
  have k11 := of_decide_eq_true h11; try simp only [A6] at k11
  have hlt : i < l.length := by omega
  obtain ⟨x, hx⟩ := get_some hlt
  have hsx : TState.size x ≤ 1048576 := Nat.le_trans (Q1 hx) hs
  refine C1 (A3 (C3 (A2 ?_)))
  refine A5 rfl ?_
  refine A5 rfl ?_
  refine A5 rfl ?_
  refine A5 rfl ?_
  refine A1 rfl (N5 rfl P5 Z3 (A0 rfl) (A0 rfl) (by omega) (by simp only [Int.toNat_natCast, List.getElem?_map, hx, Option.map_some]; try rfl)) ?_
  refine A1 rfl (H0 rfl (A0 rfl) Tryz.isAgg34 Z3) ?_
  refine e6 [] 1 3 ([]) (nin TState.ow4 (l.take i) xs) (fun zz => (nin THeld.ow x.Held zz.2.1.2 ++ (nin TCell.ow x.Cells zz.1.2)) ++ (nin TState.ow4 (l.take i) xs)) rfl rfl rfl rfl Tryz.call16 rfl rfl (show List.Perm (nin TState.ow4 (l.take i) xs) (([]) ++ (nin TState.ow4 (l.take i) xs)) from List.Perm.refl _) (Al6 x hsx) (A8 (A0 rfl) C8) (fun a => List.Perm.refl _) ?_
  intro x20 ok20
  refine A1 rfl (K9 3 rfl I4 I0 (A0 rfl) rfl (A0 rfl) (by omega) (by rw [l0 hinv.1 hinv.2.1]; omega)) ?_
  refine R8 3 rfl rfl rfl (A0 rfl) (A0 rfl) (I7 _) rfl I0 rfl (by rw [l0 hinv.1 hinv.2.1]; omega) ?_
  refine A4 ?_
  refine AWP.le (P2 [3, 0, 0, 0] rfl) ?_
  refine AWP.le (g6 1 (t := nin TState.ow4 (l.take (i + 1)) (xs ++ [x20])) (AL8 (ow := TState.ow4) (x := x20) hx hinv.2.1)) ?_
  refine A2 ?_
  refine A5 rfl ?_
  refine A1 rfl (E9 rfl (A0 rfl) B4 (by first | omega | (simp only [D3, B0, szR] at *; omega))) ?_
  refine B1 rfl ?_
  refine A4 ?_
  refine J5 i xs (i + 1) (xs ++ [x20]) ?_ ?_ (J9 (Eq.trans (by exact congrArg (fun z => Own.arr _ _ _ z :: _) (AC5 hx hinv.2.1)) (List.append_nil _).symm) ⟨rfl, rfl, rfl, rfl, trivial⟩)
  ·exact ⟨by omega, by rw [I5, hinv.2.1]; rfl, fit_snoc hx hinv.2.1 hinv.2.2 ok20⟩
  omega
 intro h11
 have k11 := of_decide_eq_false h11; try simp only [A6] at k11
 have hge : i = l.length := by omega
 have hxs := hinv.2.1.trans hge
 rw [show l.take i = l from List.take_of_length_le (by omega), show l.length - i = 0 by omega, List.replicate_zero, List.append_nil]
 refine F1 ?_
 refine A3 (A2 ?_)
 refine A5 rfl ?_
 refine B1 rfl ?_
 refine A4 ?_
 refine B8 ?_
 exact AC4 [0] 0 (nin TState.ow4 l xs) [] (v7, xs) (⟨hxs, hinv.2.2⟩) rfl (show List.Perm (nin TState.ow4 l xs) ((nin TState.ow4 l xs) ++ []) from d9) (by rfl) (V6 rfl (B7 rfl (by first | rfl | (refine congrArg AV.bool ?_; simp_all; done))))
theorem AR0 (v : Value) (l : List TState) (xs : List StX) (k : Int) (hl : xs.length = l.length) (hfit : ∀ (j : Nat) (s : TState) (z : StX), l[j]? = some s → xs[j]? = some z → TState.fit s z) (h : 0 ≤ k ∧ countN TState.markEN l k ≤ 4611686018427387904) : GSpec Tryz.prog 27 [AV.is v, AV.int k] (.arr v 43 4 (nrows TState.ocs4 l xs) :: nin TState.ow4 l xs) (fun _ : Unit => True) (fun _ => .arr v 43 4 (nrows TState.ocs4 (marksN TState.markE TState.markEN l k) xs) :: nin TState.ow4 (marksN TState.markE TState.markEN l k) xs) (fun _ => AV.int (countN TState.markEN l k)) := by
 have hll := s3 TState.markEN_le1 l k
 refine K4 Tryz.func27 rfl Tryz.ntmps27 rfl ?_
 refine A3 (A2 ?_)
 refine A1 rfl (A7 rfl B4) ?_
 refine A4 (A3 (A3 (A2 ?_)))
 refine A1 rfl (A7 rfl B4) ?_
 refine A4 (C3 ?_)
 refine J7 [(0, _), (4, _)] [] (fun (i : Nat) (c : Int) => i ≤ l.length ∧ c = countN TState.markEN (l.take i) k) (fun (i : Nat) (c : Int) => [.arr v 43 4 (nrows TState.ocs4 (midN TState.markE TState.markEN l k i) xs)] ++ (nin TState.ow4 (midN TState.markE TState.markEN l k i) xs)) (fun (i : Nat) (c : Int) => [(1, AV.int c), (5, AV.int i)]) (fun (i : Nat) (c : Int) => l.length - i) (0) (k) ?_ (J9 (by rw [AG2, List.append_nil]; rfl) ⟨rfl, rfl, rfl, rfl, trivial⟩) ?_
 ·exact ⟨Nat.zero_le _, rfl⟩
 intro i c hinv
 refine s7 (List.append_nil _) ?_
 refine A3 (A3 (A2 ?_))
 refine A5 rfl ?_
 refine A5 rfl ?_
 refine A1 rfl (V3 0 rfl I4 (A0 rfl) rfl) ?_
 refine A1 rfl (F7 rfl (A0 rfl) (A0 rfl)) ?_
 refine A4 ?_
 refine C0 (A0 rfl) ?_ ?_
 ·intro h9
  have k9 := of_decide_eq_true h9; try simp only [A6] at k9
  simp only [X0 (hl.trans (L7 hinv.1).symm), L7 hinv.1] at k9
  have hlt : i < l.length := by omega
  obtain ⟨p0, hq⟩ := get_some hlt
  have hp := AM0 (mk := TState.markE) (mn := TState.markEN) (k := k) hq
  obtain ⟨x, hx⟩ := get_some (show i < xs.length by omega)
  have hfx := hfit i p0 x hq hx
  have hstep := AG3 (mk := TState.markE) (mn := TState.markEN) (k := k) hq
  rw [← hinv.2] at hstep
  have hct := Y6 TState.markEN_le l (i + 1) k
  have hc0 := Y6 TState.markEN_le l i k
  rw [Y5 hq, ← hinv.2] at hct
  rw [← hinv.2] at hc0
  have hce : TState.markEN p0 c = countN THeld.markEN p0.Held (countN TCell.markEN p0.Cells (c + 1)) + 3 * p0.Told.length := rfl
  have hk1 := e7 TCell.markEN_le p0.Cells (c + 1)
  have hk2 := e7 THeld.markEN_le p0.Held (countN TCell.markEN p0.Cells (c + 1))
  rw [i7 hp hx]
  refine C1 (A3 (C3 (A3 ?_)))
  refine AWP.le (g6 1 (t := ([Own.arr x.1.1 125 2 (nrows TCell.ocs p0.Cells x.1.2), Own.arr x.2.1.1 141 5 (nrows THeld.ocs p0.Held x.2.1.2), Own.arr x.2.2 144 3 (p0.Told.map TTold.cs)]) ++ (nin THeld.ow p0.Held x.2.1.2 ++ (nin TCell.ow p0.Cells x.1.2 ++ (nin TState.ow4 ((midN TState.markE TState.markEN l k i).eraseIdx i) (xs.eraseIdx i))))) (st_get hp hx)) ?_
  refine A2 ?_
  refine A5 rfl ?_
  refine A5 rfl ?_
  refine A5 rfl ?_
  refine A1 rfl (K9 0 rfl I4 I0 (A0 rfl) rfl (A0 rfl) (by omega) (by rw [U3 hp hx (hl.trans (L7 hinv.1).symm), L7 hinv.1]; omega)) ?_
  refine A1 rfl (R7 0 rfl E3 rfl B9 (A0 rfl) rfl rfl (N9 (N6 hp hx))) ?_
  refine P1 0 rfl rfl rfl (A0 rfl) (A0 rfl) (P0 _ _) rfl B9 (N6 hp hx) rfl ?_
  refine A4 (A3 (A2 ?_))
  refine A5 rfl ?_
  refine A1 rfl (E9 rfl (A0 rfl) B4 (by first | omega | (simp only [D3, B0, szR] at *; omega))) ?_
  refine B1 rfl ?_
  refine A4 (A3 (A2 ?_))
  refine A5 rfl ?_
  refine A5 rfl ?_
  refine A1 rfl (K9 0 rfl I4 I0 (A0 rfl) rfl (A0 rfl) (by omega) (by rw [U3 hp hx (hl.trans (L7 hinv.1).symm), L7 hinv.1]; omega)) ?_
  refine A1 rfl (R7 0 rfl E3 rfl L6 (A0 rfl) rfl rfl (N9 (N6 hp hx))) ?_
  refine A1 rfl (n4 0 rfl (A0 rfl) rfl O3 (N9 (N6 hp hx)) rfl) ?_
  refine A5 rfl ?_
  refine e6 [1] 3 1 (nin TCell.ow p0.Cells x.1.2) (nin THeld.ow p0.Held x.2.1.2 ++ (nin TState.ow4 ((midN TState.markE TState.markEN l k i).eraseIdx i) (xs.eraseIdx i))) (fun zz => nin TCell.ow (marksN TCell.markE TCell.markEN p0.Cells (c + 1)) x.1.2 ++ (nin THeld.ow p0.Held x.2.1.2 ++ (nin TState.ow4 ((midN TState.markE TState.markEN l k i).eraseIdx i) (xs.eraseIdx i)))) rfl rfl rfl rfl Tryz.call58 rfl rfl (show List.Perm (nin THeld.ow p0.Held x.2.1.2 ++ (nin TCell.ow p0.Cells x.1.2 ++ (nin TState.ow4 ((midN TState.markE TState.markEN l k i).eraseIdx i) (xs.eraseIdx i)))) ((nin TCell.ow p0.Cells x.1.2) ++ (nin THeld.ow p0.Held x.2.1.2 ++ (nin TState.ow4 ((midN TState.markE TState.markEN l k i).eraseIdx i) (xs.eraseIdx i)))) from List.perm_append_comm_assoc _ _ _) (AU2 _ p0.Cells x.1.2 (c + 1) hfx.1 (by omega)) (A8 (A0 rfl) (A8 (A0 rfl) C8)) (fun a => List.Perm.refl _) ?_
  intro x25 ok25
  refine B1 rfl ?_
  refine A4 (A3 (A2 ?_))
  refine A5 rfl ?_
  refine A5 rfl ?_
  refine A1 rfl (K9 1 rfl I4 I0 (A0 rfl) rfl (A0 rfl) (by omega) (by rw [U3 hp hx (hl.trans (L7 hinv.1).symm), L7 hinv.1]; omega)) ?_
  refine A1 rfl (R7 1 rfl E3 rfl M9 (A0 rfl) rfl rfl (N9 (N6 hp hx))) ?_
  refine A1 rfl (n4 1 rfl (A0 rfl) rfl P9 (N9 (N6 hp hx)) rfl) ?_
  refine A5 rfl ?_
  refine e6 [2] 3 1 (nin THeld.ow p0.Held x.2.1.2) (nin TCell.ow (marksN TCell.markE TCell.markEN p0.Cells (c + 1)) x.1.2 ++ (nin TState.ow4 ((midN TState.markE TState.markEN l k i).eraseIdx i) (xs.eraseIdx i))) (fun zz => nin THeld.ow (marksN THeld.markE THeld.markEN p0.Held (countN TCell.markEN p0.Cells (c + 1))) x.2.1.2 ++ (nin TCell.ow (marksN TCell.markE TCell.markEN p0.Cells (c + 1)) x.1.2 ++ (nin TState.ow4 ((midN TState.markE TState.markEN l k i).eraseIdx i) (xs.eraseIdx i)))) rfl rfl rfl rfl Tryz.call59 rfl rfl (show List.Perm (nin TCell.ow (marksN TCell.markE TCell.markEN p0.Cells (c + 1)) x.1.2 ++ (nin THeld.ow p0.Held x.2.1.2 ++ (nin TState.ow4 ((midN TState.markE TState.markEN l k i).eraseIdx i) (xs.eraseIdx i)))) ((nin THeld.ow p0.Held x.2.1.2) ++ (nin TCell.ow (marksN TCell.markE TCell.markEN p0.Cells (c + 1)) x.1.2 ++ (nin TState.ow4 ((midN TState.markE TState.markEN l k i).eraseIdx i) (xs.eraseIdx i)))) from List.perm_append_comm_assoc _ _ _) (AU3 _ p0.Held x.2.1.2 (countN TCell.markEN p0.Cells (c + 1)) hfx.2 (by omega)) (A8 (A0 rfl) (A8 (A0 rfl) C8)) (fun a => List.Perm.refl _) ?_
  intro x32 ok32
  refine B1 rfl ?_
  refine A4 (A2 ?_)
  refine A5 rfl ?_
  refine A5 rfl ?_
  refine A1 rfl (K9 2 rfl I4 I0 (A0 rfl) rfl (A0 rfl) (by omega) (by rw [U3 hp hx (hl.trans (L7 hinv.1).symm), L7 hinv.1]; omega)) ?_
  refine A1 rfl (R7 2 rfl E3 rfl Q9 (A0 rfl) rfl rfl (N9 (N6 hp hx))) ?_
  refine A1 rfl (n4 2 rfl (A0 rfl) rfl V2 (N9 (N6 hp hx)) rfl) ?_
  refine A5 rfl ?_
  refine S9 [3] rfl rfl rfl rfl Tryz.call60 rfl (AT8 _ p0.Told (countN THeld.markEN p0.Held (countN TCell.markEN p0.Cells (c + 1))) (by omega)) (A8 (A0 rfl) (A8 (A0 rfl) C8)) rfl ?_
  intro x39 ok39
  refine B1 rfl ?_
  refine A4 ?_
  refine AWP.le (P2 [3, 2, 1, 0] rfl) ?_
  refine AWP.le (g6 1 (t := nin TState.ow4 (midN TState.markE TState.markEN l k (i + 1)) xs) ((hstep ▸ st_set (p' := TState.markE p0 c) hp hx))) ?_
  refine A2 ?_
  refine A5 rfl ?_
  refine A1 rfl (E9 rfl (A0 rfl) B4 (by first | omega | (simp only [D3, B0, szR] at *; omega))) ?_
  refine B1 rfl ?_
  refine A4 ?_
  refine J5 i c (i + 1) (TState.markEN p0 c) ?_ ?_ (J9 (Eq.trans (by exact congrArg (fun z => Own.arr _ _ _ z :: _) ((AC6 hp hx).trans (congrArg (fun z => nrows TState.ocs4 z xs) hstep))) (List.append_nil _).symm) ⟨rfl, rfl, rfl, rfl, trivial⟩)
  ·exact ⟨by omega, by rw [Y5 hq, hinv.2]⟩
  omega
 intro h9
 have k9 := of_decide_eq_false h9; try simp only [A6] at k9
 simp only [X0 (hl.trans (L7 hinv.1).symm), L7 hinv.1] at k9
 have hge : l.length ≤ i := by omega
 rw [AL9 hge]
 refine F1 ?_
 refine A3 (A2 ?_)
 refine A5 rfl ?_
 refine B1 rfl ?_
 refine A4 ?_
 refine B8 ?_
 exact AC4 [0] 0 (nin TState.ow4 (marksN TState.markE TState.markEN l k) xs) [] () (trivial) rfl (show List.Perm (nin TState.ow4 (marksN TState.markE TState.markEN l k) xs) ((nin TState.ow4 (marksN TState.markE TState.markEN l k) xs) ++ []) from d9) (by rfl) (V6 rfl (B7 rfl (by exact congrArg AV.int (by rw [hinv.2, List.take_of_length_le hge]))))
end Go.Proofs.YtkegepoihkhihaaGreat

namespace Go.AV
open Go.ChangeShapes Go.WideShapes Go.ChangeAt Go.RowKit

def heapR (w : World) : RHeap := fun b => w.heap[b]?
theorem heapR_le (w : World) : RLe (heapR w) w := fun _ _ h => h
theorem As5 {w : World} {a : Addr} {v : Value} (h : w.cell? a = some v) : rcell (heapR w) a = some v := h

def Opens (P : Program) (t : TypeId) (α : Type) (enc : α → List AV) (ok : α → Prop) : Prop :=
  ∀ (H : Type) (en : TypeId × Value → H) (w : World) (base : Nat) (spare : Nat → Bool) (held : Bool) (fuel : Nat) (cs : List Value) (x : DataW H × List MemPlace),
    DataW.trod en P w base spare held fuel t cs = some x → ∃ a : α, ok a ∧ DenC (heapR w) cs (enc a)
theorem w4 {R : RHeap} {v : Value} {x : AV} (h : x.den R v) (h1 : v.oneCell' = true) : DenC R [v] [x] :=
  ⟨rfl, fun i u y hu hy => by
    cases i with
    | zero => simp at hu hy; subst hu; subst hy; exact ⟨h, h1⟩
    | succ i => simp at hu⟩
theorem Al7 {R : RHeap} {vs us : List Value} {xs ys : List AV} (h : DenC R vs xs) (k : DenC R us ys) : DenC R (vs ++ us) (xs ++ ys) :=
  ⟨by simp [h.1, k.1], fun i v x hv hx => by
    by_cases hi : i < vs.length
    · rw [List.getElem?_append_left hi] at hv
      rw [List.getElem?_append_left (by rw [← h.1]; exact hi)] at hx
      exact h.2 i v x hv hx
    · rw [List.getElem?_append_right (by omega)] at hv
      rw [List.getElem?_append_right (by rw [← h.1]; omega), ← h.1] at hx
      exact k.2 _ v x hv hx⟩
section
variable {P : Program} {t e : TypeId}
theorem Ax0 {k : IntKind} (ht : P.underlying t = some (.int k)) : Opens P t Int (fun n => [AV.ik k n]) (fun n => (Lit.int k n).wf = true) := fun H en w base spare held fuel cs x h => by
  obtain ⟨n, rfl, _, hw⟩ := DataW.trod_int ht h
  exact ⟨n, hw, w4 rfl rfl⟩
theorem As6 (ht : P.underlying t = some .bool) : Opens P t Bool (fun b => [AV.bool b]) (fun _ => True) := fun H en w base spare held fuel cs x h => by
  obtain ⟨b, rfl, _⟩ := DataW.trod_bool ht h
  exact ⟨b, trivial, w4 rfl rfl⟩
theorem Ax1 (ht : P.underlying t = some .string) : Opens P t (List UInt8) (fun s => [AV.str s]) (fun s => s.length ≤ 9223372036854775807) := fun H en w base spare held fuel cs x h => by
  obtain ⟨s, rfl, _, hs⟩ := DataW.trod_string ht h
  refine ⟨s.data.toList, ?_, w4 (show _ = _ by simp) rfl⟩
  unfold maxLen at hs
  show s.data.toList.length ≤ _
  rw [Array.length_toList]
  have e : s.data.size = s.size := rfl
  omega
theorem Ao4 {α : Type} {p : Nat → α → Prop} : ∀ n, (∀ i, i < n → ∃ a, p i a) → ∃ l : List α, l.length = n ∧ ∀ (i : Nat) (a : α), l[i]? = some a → p i a
  | 0, _ => ⟨[], rfl, fun i a h => by simp at h⟩
  | n + 1, h => by
    obtain ⟨l, h1, h2⟩ := Ao4 n fun i hi => h i (by omega)
    obtain ⟨a, ha⟩ := h n (by omega)
    refine ⟨l ++ [a], by simp [h1], fun i b hb => ?_⟩
    by_cases hi : i < l.length
    · rw [List.getElem?_append_left hi] at hb; exact h2 i b hb
    · rw [List.getElem?_append_right (by omega)] at hb
      have hin : i = n := by
        have := (List.getElem?_eq_some_iff.1 hb).1
        simp at this; omega
      subst hin
      rw [h1] at hb; simp at hb; subst hb; exact ha
theorem Y7 {α : Type} {enc : α → List AV} {ok : α → Prop} {sz : Nat} (ht : P.underlying t = some (.slice e)) (hc : P.cellsOf e = sz) (h : Opens P e α enc ok) (hl : ∀ a, (enc a).length = sz) :
    Opens P t (List α) (fun l => [AV.list sz (l.map enc)]) (fun l => ∀ a ∈ l, ok a) := fun H en w base spare held fuel cs x hx => by
  rcases DataW.trod_slice ht hx with ⟨rfl, _⟩ | ⟨a, len, cap, elems, rest, n, _, rfl, _, _, hlc, hcm, hel, hi, _, _⟩
  · exact ⟨[], by simp, w4 ⟨none, 0, rfl, Nat.le_refl _, Nat.zero_le _, by simp, fun h => absurd rfl h⟩ rfl⟩
  · obtain ⟨l, h1, h2⟩ := Ao4 (p := fun i b => ok b ∧ ∃ cs', w.cells? base (a.add (i * sz)) sz = some cs' ∧ DenC (heapR w) cs' (enc b)) len fun i hil => by
      have := hi i hil
      rw [hc, List.getElem?_eq_getElem (by omega)] at this
      obtain ⟨cs', hcs, htr⟩ := Option.bind_eq_some_iff.1 this
      obtain ⟨b, hb, hd⟩ := h H en w base spare held n cs' _ htr
      exact ⟨b, hb, cs', hcs, hd⟩
    refine ⟨l, fun b hb => ?_, w4 ⟨some a, cap, by rw [A6, h1], by rw [A6, h1]; exact hlc, hcm, fun ec he => ?_, fun _ => ⟨a, rfl, fun j y hy => ?_⟩⟩ rfl⟩
    · obtain ⟨i, hib⟩ := List.getElem?_of_mem hb
      exact (h2 i b hib).1
    · obtain ⟨b, _, rfl⟩ := List.mem_map.1 he
      exact hl b
    · have hun : ∀ ec ∈ l.map enc, ec.length = sz := fun ec he => by
        obtain ⟨b, _, rfl⟩ := List.mem_map.1 he
        exact hl b
      have hjl : j < l.length * sz := by
        have := (List.getElem?_eq_some_iff.1 hy).1
        rwa [V0 hun, A6] at this
      have hsz : 0 < sz := by
        rcases Nat.eq_zero_or_pos sz with h0 | h0
        · subst h0; omega
        · exact h0
      have hij : j / sz < l.length := Nat.div_lt_of_lt_mul (by rw [Nat.mul_comm]; exact hjl)
      have hkm : j % sz < sz := Nat.mod_lt _ hsz
      have hjj : j / sz * sz + j % sz = j := by rw [Nat.mul_comm]; exact Nat.div_add_mod j sz
      have hb : l[j / sz]? = some l[j / sz] := List.getElem?_eq_getElem hij
      obtain ⟨_, cs', hcs, hd⟩ := h2 _ _ hb
      obtain ⟨_, hcl, hat⟩ := World.cells?_some hcs
      have hk : (enc l[j / sz])[j % sz]? = some ((enc l[j / sz])[j % sz]'(by rw [hl]; exact hkm)) := List.getElem?_eq_getElem _
      have hyk := W7 hun (i := j / sz) (e := enc l[j / sz]) (by rw [List.getElem?_map, hb]; rfl) hk
      rw [hjj, hy] at hyk
      injection hyk with hyk
      have hv : cs'[j % sz]? = some (cs'[j % sz]'(by rw [hcl]; exact hkm)) := List.getElem?_eq_getElem _
      have hcell := hat (j % sz) hkm
      rw [hv, AA5, hjj] at hcell
      refine ⟨_, As5 hcell, ?_⟩
      have := hd.2 _ _ _ hv hk
      rw [hyk]; exact this
def OpensF (P : Program) (fs : List Field) (off : Nat) (α : Type) (enc : α → List AV) (ok : α → Prop) (total : Nat) : Prop :=
  ∀ (H : Type) (en : TypeId × Value → H) (w : World) (base : Nat) (spare : Nat → Bool) (held : Bool) (fuel : Nat) (cs : List Value), cs.length = total →
    (∀ f ∈ fs, ∃ x, DataW.trod en P w base spare held fuel f.type ((cs.drop f.offset).take (P.cellsOf f.type)) = some x) → ∃ a : α, ok a ∧ DenC (heapR w) (cs.drop off) (enc a)
theorem Z9 {total : Nat} : OpensF P [] total Unit (fun _ => []) (fun _ => True) total := fun H en w base spare held fuel cs hl _ =>
  ⟨(), trivial, by rw [List.drop_eq_nil_of_le (by omega)]; exact ⟨rfl, fun i v x h => by simp at h⟩⟩
theorem N2 {α β : Type} {f : Field} {fs : List Field} {off m total : Nat} {enc : α → List AV} {enc' : β → List AV} {ok : α → Prop} {ok' : β → Prop} (h : Opens P f.type α enc ok) (ho : f.offset = off) (hm : P.cellsOf f.type = m)
    (k : OpensF P fs (off + m) β enc' ok' total) : OpensF P (f :: fs) off (α × β) (fun a => enc a.1 ++ enc' a.2) (fun a => ok a.1 ∧ ok' a.2) total := fun H en w base spare held fuel cs hl hf => by
  obtain ⟨x, hx⟩ := hf f (by simp)
  rw [ho, hm] at hx
  obtain ⟨a, h1, h2⟩ := h H en w base spare held fuel _ x hx
  obtain ⟨b, h3, h4⟩ := k H en w base spare held fuel cs hl fun g hg => hf g (by simp [hg])
  refine ⟨(a, b), ⟨h1, h3⟩, ?_⟩
  have := Al7 h2 h4
  rwa [← List.drop_drop, List.take_append_drop] at this
theorem X2 {α : Type} {fs : Array Field} {enc : α → List AV} {ok : α → Prop} {total : Nat} (ht : P.underlying t = some (.struct fs)) (hc : P.cellsOf t = total) (h : OpensF P fs.toList 0 α enc ok total) : Opens P t α enc ok := fun H en w base spare held fuel cs x hx => by
  obtain ⟨xs, n, _, _, hl, hxl, hf⟩ := DataW.trod_struct ht hx
  obtain ⟨a, h1, h2⟩ := h H en w base spare held n cs (by rw [hl, hc]) fun f hfm => by
    obtain ⟨i, hi⟩ := List.getElem?_of_mem hfm
    have hi' : fs[i]? = some f := by rw [← Array.getElem?_toList]; exact hi
    have hlt : i < xs.length := by
      have := (Array.getElem?_eq_some_iff.1 hi').1
      omega
    exact ⟨xs[i], (hf i f hi').trans (List.getElem?_eq_getElem hlt)⟩
  exact ⟨a, h1, by simpa using h2⟩
theorem T0 {α β : Type} {enc : α → List AV} {enc' : β → List AV} {ok : α → Prop} {ok' : β → Prop} (f : α → β) (h : Opens P t α enc ok) (he : ∀ a, enc' (f a) = enc a) (ho : ∀ a, ok a → ok' (f a)) : Opens P t β enc' ok' := fun H en w base spare held fuel cs x hx => by
  obtain ⟨a, h1, h2⟩ := h H en w base spare held fuel cs x hx
  exact ⟨f a, ho a h1, by rw [he]; exact h2⟩
theorem arg_agg {H : Type} {en : TypeId × Value → H} {W : World} {base b0 : Nat} {spare : Nat → Bool} {held : Bool} {r : Reach} {α : Type} {fs : Array Field} {enc : α → List AV} {ok : α → Prop} {v : Value} {d : DataW H} {p : List MemPlace}
    (h : Opens P t α enc ok) (ht : P.underlying t = some (.struct fs)) (hv : Value.okWide P W r b0 t v) (hd : DataW.Trod en P W base spare held t v d p) : ∃ a, ok a ∧ (AV.agg (enc a)).den (heapR W) v := by
  obtain ⟨cs, rfl, _⟩ := okWide_struct ht hv
  obtain ⟨fuel, hf⟩ := hd
  obtain ⟨a, h1, h2⟩ := h H en W base spare held fuel _ _ hf
  exact ⟨a, h1, cs.toList, rfl, h2⟩
theorem arg_one {H : Type} {en : TypeId × Value → H} {W : World} {base : Nat} {spare : Nat → Bool} {held : Bool} {α : Type} {enc : α → AV} {ok : α → Prop} {v : Value} {d : DataW H} {p : List MemPlace}
    (h : Opens P t α (fun a => [enc a]) ok) (h1 : v.cells = #[v]) (hd : DataW.Trod en P W base spare held t v d p) : ∃ a, ok a ∧ (enc a).den (heapR W) v := by
  obtain ⟨fuel, hf⟩ := hd
  rw [h1] at hf
  obtain ⟨a, h2, h3⟩ := h H en W base spare held fuel _ _ hf
  exact ⟨a, h2, (h3.2 0 v _ rfl rfl).1⟩
theorem Ax2 {f : FuncId} {xs : List AV} {b : Bool} {W : World} {vs : List Value} (h : FSpec P f xs (AV.bool b)) (hd : DenV (heapR W) vs xs) :
    Calls P f vs.toArray W fun e w' => e = .returned (.bool b) ∧ Below W.heap.size W w' :=
  (h (heapR W) W vs (heapR_le W) hd).mono fun e w' ⟨v, R', h1, h2, _, _, h5⟩ => ⟨by rw [h1]; exact congrArg Ending.returned h2, h5⟩
end
end Go.AV

set_option maxHeartbeats 2000000
namespace Go.M
open Go.AV
theorem Ax3 (d : Int) (l : List TState) : (nextR d l).2.1.length ≤ 400 := by
  cases h : (nextR d l).2.2 with
  | false => rw [next_not h]; exact Nat.zero_le _
  | true =>
    obtain ⟨r, h1, h2, h3, h4⟩ := Aw6 h
    obtain ⟨a1, a2, a3⟩ := r8.1 h2
    obtain ⟨_, _, m3⟩ := Ar8 (v8 a3) a2 h3
    rw [h4]
    exact ((U0 r).1 m3).2.2
end Go.M
namespace Go.Proofs.YtkegepoihkhihaaGreat
open Go Go.AV Go.M
open Go.ChangeShapes Go.WideShapes Go.ChangeAt Go.RowKit
section
attribute [local irreducible] OpW OpA OpS AWP FSpec ESpec GSpec OpE RetOk RetOkG RvDen Le Ev GuardIs SrcIs
theorem AD5 (f : TFeeder) (hf : True) (l : List TState) (hl : ∀ x ∈ l, x.ok) : FSpec Tryz.prog 5 [AV.agg f.cs, AV.list 4 (l.map TState.cs)] (AV.bool true) := by
 obtain ⟨d⟩ := f
 refine D0 Tryz.func5 rfl Tryz.ntmps5 rfl ?_
 refine A3 (A2 ?_)
 refine I6 rfl rfl rfl rfl (A0 rfl) ?_
 intro b2
 refine A1 rfl (A7 rfl E2) ?_
 refine A4 (A3 (A2 ?_))
 refine A1 rfl (A7 rfl B4) ?_
 refine A4 (A3 (A2 ?_))
 refine A5 rfl ?_
 refine A5 rfl ?_
 refine A1 rfl (D8 rfl Tryz.call9 rfl (AY9 _ _ (by first | assumption | trivial) (by first | omega | (simp only [D3, B0, szR] at *; omega)) (by first | omega | (simp only [D3, B0, szR] at *; omega))) (A8 (A0 rfl) (A8 (A0 rfl) C8))) ?_
 refine B1 rfl ?_
 refine A4 (A3 (A3 (A2 ?_)))
 refine A5 rfl ?_
 refine A1 rfl (F7 rfl (A0 rfl) B4) ?_
 refine A4 ?_
 refine C0 (A0 rfl) ?_ ?_
 ·intro h23
  have k23 := of_decide_eq_true h23; try simp only [A6] at k23
  refine A3 (A2 ?_)
  refine A1 rfl (A7 rfl E2) ?_
  refine A4 ?_
  refine B8 ?_
  exact E4 rfl (B7 rfl (by first | rfl | (exfalso; simp_all; done) | (exfalso; simp_all; omega)))
 intro h23
 have k23 := of_decide_eq_false h23; try simp only [A6] at k23
 have hs : sizeL TState.size l ≤ 1048576 := (by simp only [szR] at k23; split at k23 <;> omega)
 have hsm : ∀ s ∈ l, s.size ≤ 1048576 := fun s hm => Nat.le_trans (k6 hm) hs
 have hml := Ax3 d l
 have hm1 := AH8 l 1
 have hm2 := e7 TState.markEN_le l 1
 have hX : 0 ≤ (1 : Int) ∧ countN TState.markEN l 1 ≤ 4611686018427387904 := ⟨by omega, by omega⟩
 have hX0 : ¬ (countN TState.markEN l 1 < 0) := by omega
 refine C1 (A3 (A2 ?_))
 refine A1 rfl (L5 0 rfl (A0 rfl) rfl Tryz.isAgg51 Tryz.sizeOf51 rfl) ?_
 refine A1 rfl (D8 rfl Tryz.call24 rfl (r6 ⟨d⟩ (by simp [TFeeder.size])) (A8 (A0 rfl) C8)) ?_
 refine A5 rfl ?_
 refine A1 rfl (D8 rfl Tryz.call11 rfl (r5 l hs) (A8 (A0 rfl) C8)) ?_
 refine A1 rfl (D8 rfl Tryz.call23 rfl (AU1 d l hsm) (A8 (A0 rfl) (A8 (A0 rfl) C8))) ?_
 refine A5 rfl ?_
 refine A1 rfl (K3 rfl (A0 rfl) rfl) ?_
 refine A1 rfl (K3 rfl (A0 rfl) rfl) ?_
 refine A1 rfl (K3 rfl (A0 rfl) rfl) ?_
 refine I2 rfl rfl rfl rfl Tryz.zeroValue52 rfl ?_
 intro b6
 refine G9 0 rfl rfl rfl (A0 rfl) (A0 rfl) (I7 _) rfl L1 rfl ?_
 refine B1 rfl ?_
 refine B1 rfl ?_
 refine A4 (A3 (A2 ?_))
 refine A5 rfl ?_
 refine e6 [] 2 1 ([]) ([]) (fun zz => nin TState.ow4 l zz.2) rfl rfl rfl rfl Tryz.call11 rfl rfl (show List.Perm ([]) (([]) ++ ([])) from List.Perm.refl _) (Ah3 l hs) (A8 (A0 rfl) C8) (fun a => AL7) ?_
 intro x34 ok34
 have okl := ok34.1
 have okf := ok34.2
 refine B1 rfl ?_
 refine A4 (A3 (A2 ?_))
 refine A1 rfl (L5 2 rfl (A0 rfl) rfl Tryz.isAgg51 Tryz.sizeOf51 rfl) ?_
 refine A1 rfl (D8 rfl Tryz.call24 rfl (r6 ⟨d⟩ (by simp [TFeeder.size])) (A8 (A0 rfl) C8)) ?_
 refine A5 rfl ?_
 refine p4 [] rfl rfl rfl rfl Tryz.call25 rfl (AH7 d l hsm) rfl (M5 (evb (A0 rfl)) (M5 (Ab5 (A0 rfl) (AX8 TState.fit TState.lcM4 okl okf 0 rfl (fun o ho => List.mem_of_mem_drop (i := 3) (show o ∈ nin TState.ow4 l x34.2 from ho)))) T4)) (by first | exact H1 | (intro _; exact H1) | (intro _; first | exact D5 _ | exact C7 _ _ | exact C2 _ | exact C9 _ | exact C6) | (intro _; refine T8 ?_; (repeat (first | exact C5 | (refine B6 (by first | (first | exact D5 _ | exact C7 _ _ | exact C2 _ | exact C9 _ | exact C6) | (refine N1 ?_; (repeat (first | exact C5 | (refine B6 (by first | exact D5 _ | exact C7 _ _ | exact C2 _ | exact C9 _ | exact C6) ?_))))) ?_))); done) | (intro _; refine N1 ?_; (repeat (first | exact C5 | (refine B6 (by first | exact D5 _ | exact C7 _ _ | exact C2 _ | exact C9 _ | exact C6) ?_))); done) | ((repeat (first | exact H1 | (refine G1 (L8 ?_) ?_; (repeat (first | exact C5 | (refine B6 (by first | exact D5 _ | exact C7 _ _ | exact C2 _ | exact C9 _ | exact C6) ?_)))) | (refine G1 (L9 ?_) ?_; (repeat (first | exact M0 | (refine M2 (fun _ => ?_); (first | exact TWrite.flat _ | exact TFeedItem.flat _ | exact TIdx.flat _ | exact TVer.flat _ | (repeat (first | exact C5 | (refine B6 (by first | exact D5 _ | exact C7 _ _ | exact C2 _ | exact C9 _ | exact C6) ?_))))) | (refine M3 ?_; (first | exact TWrite.flat _ | exact TFeedItem.flat _ | exact TIdx.flat _ | exact TVer.flat _ | (repeat (first | exact C5 | (refine B6 (by first | exact D5 _ | exact C7 _ _ | exact C2 _ | exact C9 _ | exact C6) ?_))))) | (refine K7 ?_ ?_; (first | exact TWrite.flat _ | exact TFeedItem.flat _ | exact TIdx.flat _ | exact TVer.flat _ | (repeat (first | exact C5 | (refine B6 (by first | exact D5 _ | exact C7 _ _ | exact C2 _ | exact C9 _ | exact C6) ?_))))) | refine M1 ?_ ?_))))); done) | (intro _; (repeat (first | exact H1 | (refine G1 (L8 ?_) ?_; (repeat (first | exact C5 | (refine B6 (by first | exact D5 _ | exact C7 _ _ | exact C2 _ | exact C9 _ | exact C6) ?_)))) | (refine G1 (L9 ?_) ?_; (repeat (first | exact M0 | (refine M2 (fun _ => ?_); (first | exact TWrite.flat _ | exact TFeedItem.flat _ | exact TIdx.flat _ | exact TVer.flat _ | (repeat (first | exact C5 | (refine B6 (by first | exact D5 _ | exact C7 _ _ | exact C2 _ | exact C9 _ | exact C6) ?_))))) | (refine M3 ?_; (first | exact TWrite.flat _ | exact TFeedItem.flat _ | exact TIdx.flat _ | exact TVer.flat _ | (repeat (first | exact C5 | (refine B6 (by first | exact D5 _ | exact C7 _ _ | exact C2 _ | exact C9 _ | exact C6) ?_))))) | (refine K7 ?_ ?_; (first | exact TWrite.flat _ | exact TFeedItem.flat _ | exact TIdx.flat _ | exact TVer.flat _ | (repeat (first | exact C5 | (refine B6 (by first | exact D5 _ | exact C7 _ _ | exact C2 _ | exact C9 _ | exact C6) ?_))))) | refine M1 ?_ ?_))))); done)) (by first | exact H1 | (intro _; exact H1) | (intro _; first | exact D5 _ | exact C7 _ _ | exact C2 _ | exact C9 _ | exact C6) | (intro _; refine T8 ?_; (repeat (first | exact C5 | (refine B6 (by first | (first | exact D5 _ | exact C7 _ _ | exact C2 _ | exact C9 _ | exact C6) | (refine N1 ?_; (repeat (first | exact C5 | (refine B6 (by first | exact D5 _ | exact C7 _ _ | exact C2 _ | exact C9 _ | exact C6) ?_))))) ?_))); done) | (intro _; refine N1 ?_; (repeat (first | exact C5 | (refine B6 (by first | exact D5 _ | exact C7 _ _ | exact C2 _ | exact C9 _ | exact C6) ?_))); done) | ((repeat (first | exact H1 | (refine G1 (L8 ?_) ?_; (repeat (first | exact C5 | (refine B6 (by first | exact D5 _ | exact C7 _ _ | exact C2 _ | exact C9 _ | exact C6) ?_)))) | (refine G1 (L9 ?_) ?_; (repeat (first | exact M0 | (refine M2 (fun _ => ?_); (first | exact TWrite.flat _ | exact TFeedItem.flat _ | exact TIdx.flat _ | exact TVer.flat _ | (repeat (first | exact C5 | (refine B6 (by first | exact D5 _ | exact C7 _ _ | exact C2 _ | exact C9 _ | exact C6) ?_))))) | (refine M3 ?_; (first | exact TWrite.flat _ | exact TFeedItem.flat _ | exact TIdx.flat _ | exact TVer.flat _ | (repeat (first | exact C5 | (refine B6 (by first | exact D5 _ | exact C7 _ _ | exact C2 _ | exact C9 _ | exact C6) ?_))))) | (refine K7 ?_ ?_; (first | exact TWrite.flat _ | exact TFeedItem.flat _ | exact TIdx.flat _ | exact TVer.flat _ | (repeat (first | exact C5 | (refine B6 (by first | exact D5 _ | exact C7 _ _ | exact C2 _ | exact C9 _ | exact C6) ?_))))) | refine M1 ?_ ?_))))); done) | (intro _; (repeat (first | exact H1 | (refine G1 (L8 ?_) ?_; (repeat (first | exact C5 | (refine B6 (by first | exact D5 _ | exact C7 _ _ | exact C2 _ | exact C9 _ | exact C6) ?_)))) | (refine G1 (L9 ?_) ?_; (repeat (first | exact M0 | (refine M2 (fun _ => ?_); (first | exact TWrite.flat _ | exact TFeedItem.flat _ | exact TIdx.flat _ | exact TVer.flat _ | (repeat (first | exact C5 | (refine B6 (by first | exact D5 _ | exact C7 _ _ | exact C2 _ | exact C9 _ | exact C6) ?_))))) | (refine M3 ?_; (first | exact TWrite.flat _ | exact TFeedItem.flat _ | exact TIdx.flat _ | exact TVer.flat _ | (repeat (first | exact C5 | (refine B6 (by first | exact D5 _ | exact C7 _ _ | exact C2 _ | exact C9 _ | exact C6) ?_))))) | (refine K7 ?_ ?_; (first | exact TWrite.flat _ | exact TFeedItem.flat _ | exact TIdx.flat _ | exact TVer.flat _ | (repeat (first | exact C5 | (refine B6 (by first | exact D5 _ | exact C7 _ _ | exact C2 _ | exact C9 _ | exact C6) ?_))))) | refine M1 ?_ ?_))))); done)) (by first | exact H1 | (intro _; exact H1) | (intro _; first | exact D5 _ | exact C7 _ _ | exact C2 _ | exact C9 _ | exact C6) | (intro _; refine T8 ?_; (repeat (first | exact C5 | (refine B6 (by first | (first | exact D5 _ | exact C7 _ _ | exact C2 _ | exact C9 _ | exact C6) | (refine N1 ?_; (repeat (first | exact C5 | (refine B6 (by first | exact D5 _ | exact C7 _ _ | exact C2 _ | exact C9 _ | exact C6) ?_))))) ?_))); done) | (intro _; refine N1 ?_; (repeat (first | exact C5 | (refine B6 (by first | exact D5 _ | exact C7 _ _ | exact C2 _ | exact C9 _ | exact C6) ?_))); done) | ((repeat (first | exact H1 | (refine G1 (L8 ?_) ?_; (repeat (first | exact C5 | (refine B6 (by first | exact D5 _ | exact C7 _ _ | exact C2 _ | exact C9 _ | exact C6) ?_)))) | (refine G1 (L9 ?_) ?_; (repeat (first | exact M0 | (refine M2 (fun _ => ?_); (first | exact TWrite.flat _ | exact TFeedItem.flat _ | exact TIdx.flat _ | exact TVer.flat _ | (repeat (first | exact C5 | (refine B6 (by first | exact D5 _ | exact C7 _ _ | exact C2 _ | exact C9 _ | exact C6) ?_))))) | (refine M3 ?_; (first | exact TWrite.flat _ | exact TFeedItem.flat _ | exact TIdx.flat _ | exact TVer.flat _ | (repeat (first | exact C5 | (refine B6 (by first | exact D5 _ | exact C7 _ _ | exact C2 _ | exact C9 _ | exact C6) ?_))))) | (refine K7 ?_ ?_; (first | exact TWrite.flat _ | exact TFeedItem.flat _ | exact TIdx.flat _ | exact TVer.flat _ | (repeat (first | exact C5 | (refine B6 (by first | exact D5 _ | exact C7 _ _ | exact C2 _ | exact C9 _ | exact C6) ?_))))) | refine M1 ?_ ?_))))); done) | (intro _; (repeat (first | exact H1 | (refine G1 (L8 ?_) ?_; (repeat (first | exact C5 | (refine B6 (by first | exact D5 _ | exact C7 _ _ | exact C2 _ | exact C9 _ | exact C6) ?_)))) | (refine G1 (L9 ?_) ?_; (repeat (first | exact M0 | (refine M2 (fun _ => ?_); (first | exact TWrite.flat _ | exact TFeedItem.flat _ | exact TIdx.flat _ | exact TVer.flat _ | (repeat (first | exact C5 | (refine B6 (by first | exact D5 _ | exact C7 _ _ | exact C2 _ | exact C9 _ | exact C6) ?_))))) | (refine M3 ?_; (first | exact TWrite.flat _ | exact TFeedItem.flat _ | exact TIdx.flat _ | exact TVer.flat _ | (repeat (first | exact C5 | (refine B6 (by first | exact D5 _ | exact C7 _ _ | exact C2 _ | exact C9 _ | exact C6) ?_))))) | (refine K7 ?_ ?_; (first | exact TWrite.flat _ | exact TFeedItem.flat _ | exact TIdx.flat _ | exact TVer.flat _ | (repeat (first | exact C5 | (refine B6 (by first | exact D5 _ | exact C7 _ _ | exact C2 _ | exact C9 _ | exact C6) ?_))))) | refine M1 ?_ ?_))))); done)) ?_
 intro x39 ok39
 refine A5 rfl ?_
 refine A1 rfl (K3 rfl (A0 rfl) rfl) ?_
 refine A1 rfl (K3 rfl (A0 rfl) rfl) ?_
 refine A1 rfl (K3 rfl (A0 rfl) rfl) ?_
 refine I2 rfl rfl rfl rfl Tryz.zeroValue52 rfl ?_
 intro b10
 refine G9 0 rfl rfl rfl (A0 rfl) (A0 rfl) (I7 _) rfl L1 rfl ?_
 refine B1 rfl ?_
 refine B1 rfl ?_
 refine A4 (A3 (A3 (A2 ?_)))
 refine A1 rfl (L5 0 rfl (A0 rfl) rfl R5 L1 rfl) ?_
 refine A1 rfl (L5 3 rfl (A0 rfl) rfl R5 L1 rfl) ?_
 refine A1 rfl (D8 rfl Tryz.call26 rfl (r7 ⟨(nextR d l).1⟩ ⟨(nextR d l).1⟩) (A8 (A0 rfl) (A8 (A0 rfl) C8))) ?_
 refine A1 rfl (J3 rfl (A0 rfl)) ?_
 refine A5 rfl ?_
 refine I3 rfl (fun hc => C4 rfl (A0 rfl)) ?_
 refine I3 rfl (fun hc => C4 rfl (A0 rfl)) ?_
 refine I3 rfl (fun hc => Z1 rfl Tryz.call18 rfl (j6 _ _) (C2 _) (M5 (j8 1 (A9 rfl hc) rfl) (M5 (evb (A9 rfl hc)) T4))) ?_
 refine I3 rfl (fun hc => J3 rfl (A9 rfl hc)) ?_
 refine A1 rfl (P4 rfl (A0 rfl) (F6 rfl)) ?_
 refine A5 rfl ?_
 refine I3 rfl (fun hc => C4 rfl (A0 rfl)) ?_
 refine I3 rfl (fun hc => C4 rfl (A0 rfl)) ?_
 refine I3 rfl (fun hc => o7 rfl O6 (A9 rfl hc) (A9 rfl hc)) ?_
 refine A1 rfl (P4 rfl (A0 rfl) (F6 rfl)) ?_
 refine A4 ?_
 refine C0 (A0 rfl) ?_ ?_
 ·intro h57
  refine A3 (A2 ?_)
  refine A1 rfl (A7 rfl E2) ?_
  refine A4 ?_
  refine B8 ?_
  exact E4 rfl (B7 rfl (by first | rfl | (exfalso; simp_all; done) | (exfalso; simp_all; omega)))
 intro h57
 refine C1 (A3 (A3 (A2 ?_)))
 refine A5 rfl ?_
 refine A5 rfl ?_
 refine A1 rfl (D8 rfl Tryz.call11 rfl (r5 l hs) (A8 (A0 rfl) C8)) ?_
 refine A1 rfl (Z1 rfl Tryz.call13 rfl (AZ0 _ _) (C2 _) (M5 (Ab5 (A0 rfl) (AX8 TState.fit TState.lcM4 okl okf 2 rfl (fun o ho => List.mem_of_mem_drop (i := 5) (show o ∈ nin TState.ow4 l x34.2 from ho)))) (M5 (evb (A0 rfl)) T4))) ?_
 refine A1 rfl (J3 rfl (A0 rfl)) ?_
 refine A4 ?_
 refine C0 (A0 rfl) ?_ ?_
 ·intro h62
  refine A3 (A2 ?_)
  refine A1 rfl (A7 rfl E2) ?_
  refine A4 ?_
  refine B8 ?_
  exact E4 rfl (B7 rfl (by first | rfl | (exfalso; simp_all; done) | (exfalso; simp_all; omega)))
 intro h62
 refine C1 (A3 (A2 ?_))
 refine A1 rfl (A7 rfl B4) ?_
 refine A4 (A3 (A2 ?_))
 refine A5 rfl ?_
 refine A5 rfl ?_
 refine e6 [2] 4 1 (nin TState.ow4 l x34.2) ([]) (fun zz => nin TState.ow4 (marksN TState.markE TState.markEN l 1) x34.2) rfl rfl rfl rfl Tryz.call27 rfl rfl (show List.Perm (nin TState.ow4 l x34.2) ((nin TState.ow4 l x34.2) ++ ([])) from d9) (AR0 _ l x34.2 1 okl okf hX) (A8 (A0 rfl) (A8 (A0 rfl) C8)) (fun a => AL7) ?_
 intro x65 ok65
 refine B1 rfl ?_
 refine A4 (A3 (A3 (A2 ?_)))
 refine A5 rfl ?_
 refine A1 rfl (F7 rfl (A0 rfl) B4) ?_
 refine A5 rfl ?_
 refine I3 rfl (fun hc => L5 1 rfl (A0 rfl) rfl R5 L1 rfl) ?_
 refine I3 rfl (fun hc => L5 3 rfl (A0 rfl) rfl R5 L1 rfl) ?_
 refine I3 rfl (fun hc => D8 rfl Tryz.call26 rfl (r7 ⟨(nextR d l).1⟩ ⟨(nextR d l).1⟩) (A8 (A9 rfl hc) (A8 (A9 rfl hc) C8))) ?_
 refine I3 rfl (fun hc => J3 rfl (A9 rfl hc)) ?_
 refine A1 rfl (P4 rfl (A0 rfl) (F6 rfl)) ?_
 refine A5 rfl ?_
 refine I3 rfl (fun hc => C4 rfl (A0 rfl)) ?_
 refine I3 rfl (fun hc => C4 rfl (A0 rfl)) ?_
 refine I3 rfl (fun hc => Z1 rfl Tryz.call18 rfl (j6 _ _) (C2 _) (M5 (j8 2 (A9 rfl hc) rfl) (M5 (evb (A9 rfl hc)) T4))) ?_
 refine I3 rfl (fun hc => J3 rfl (A9 rfl hc)) ?_
 refine A1 rfl (P4 rfl (A0 rfl) (F6 rfl)) ?_
 refine A5 rfl ?_
 refine I3 rfl (fun hc => C4 rfl (A0 rfl)) ?_
 refine I3 rfl (fun hc => C4 rfl (A0 rfl)) ?_
 refine I3 rfl (fun hc => o7 rfl O6 (A9 rfl hc) (A9 rfl hc)) ?_
 refine A1 rfl (P4 rfl (A0 rfl) (F6 rfl)) ?_
 refine A4 ?_
 refine C0 (A0 rfl) ?_ ?_
 ·intro h84
  refine A3 (A2 ?_)
  refine A1 rfl (A7 rfl E2) ?_
  refine A4 ?_
  refine B8 ?_
  exact E4 rfl (B7 rfl (by first | rfl | (exfalso; simp_all; done) | (exfalso; simp_all; omega)))
 intro h84
 refine C1 (A3 (A2 ?_))
 refine A1 rfl (A7 rfl B4) ?_
 refine A4 (A3 (A2 ?_))
 refine A5 rfl ?_
 refine A5 rfl ?_
 refine S9 [2] rfl rfl rfl rfl Tryz.call21 rfl (AH0 _ (nextR d l).2.1 1 ⟨by omega, by omega⟩) (A8 (A0 rfl) (A8 (A0 rfl) C8)) rfl ?_
 intro x87 ok87
 refine B1 rfl ?_
 refine A4 (A3 (A2 ?_))
 refine A1 rfl (A7 rfl B4) ?_
 refine A4 (A3 (A2 ?_))
 refine A5 rfl ?_
 refine A5 rfl ?_
 refine A1 rfl (Z1 rfl Tryz.call22 rfl (q6 (nextR d l).2.1.length 1 ⟨by omega, by omega⟩) (C7 _ _) (M5 (j8 0 (A0 rfl) rfl) (M5 (evb (A0 rfl)) T4))) ?_
 refine B1 rfl ?_
 refine A4 (A3 (A3 (A2 ?_)))
 refine A5 rfl ?_
 refine A1 rfl (F7 rfl (A0 rfl) B4) ?_
 refine A4 ?_
 refine C0 (A0 rfl) ?_ ?_
 ·intro h92
  have k92 := of_decide_eq_true h92; try simp only [A6] at k92
  refine A3 (A2 ?_)
  refine A1 rfl (A7 rfl E2) ?_
  refine A4 ?_
  refine B8 ?_
  exact E4 rfl (B7 rfl (by first | rfl | (exfalso; simp_all; done) | (exfalso; simp_all; omega)))
 intro h92
 have k92 := of_decide_eq_false h92; try simp only [A6] at k92
 refine C1 (A3 (A3 (A2 ?_)))
 refine A5 rfl ?_
 refine A5 rfl ?_
 refine A1 rfl (S2 rfl (A0 rfl) (A0 rfl)) ?_
 refine A4 ?_
 refine C0 (A0 rfl) ?_ ?_
 ·intro h95
  have k95 := N8 h95; try simp only [A6] at k95
  refine A3 (A2 ?_)
  refine A1 rfl (A7 rfl E2) ?_
  refine A4 ?_
  refine B8 ?_
  exact E4 rfl (B7 rfl (by first | rfl | (exfalso; simp_all; done) | (exfalso; simp_all; omega)))
 intro h95
 have k95 := J4 h95; try simp only [A6] at k95
 refine C1 (A3 (A2 ?_))
 refine A1 rfl (L5 4 rfl (A0 rfl) rfl Tryz.isAgg51 Tryz.sizeOf51 rfl) ?_
 refine A1 rfl (D8 rfl Tryz.call24 rfl (r6 ⟨d⟩ (by simp [TFeeder.size])) (A8 (A0 rfl) C8)) ?_
 refine A5 rfl ?_
 refine A1 rfl (D8 rfl Tryz.call11 rfl (r5 l hs) (A8 (A0 rfl) C8)) ?_
 refine S9 [] rfl rfl rfl rfl Tryz.call25 rfl (AH7 d l hsm) (A8 (A0 rfl) (A8 (A0 rfl) C8)) rfl ?_
 intro x101 ok101
 refine A5 rfl ?_
 refine A1 rfl (K3 rfl (A0 rfl) rfl) ?_
 refine A1 rfl (K3 rfl (A0 rfl) rfl) ?_
 refine A1 rfl (K3 rfl (A0 rfl) rfl) ?_
 refine I2 rfl rfl rfl rfl Tryz.zeroValue52 rfl ?_
 intro b16
 refine G9 0 rfl rfl rfl (A0 rfl) (A0 rfl) (I7 _) rfl L1 rfl ?_
 refine B1 rfl ?_
 refine B1 rfl ?_
 refine A4 (A3 (A3 (A2 ?_)))
 refine A1 rfl (L5 0 rfl (A0 rfl) rfl R5 L1 rfl) ?_
 refine A1 rfl (L5 5 rfl (A0 rfl) rfl R5 L1 rfl) ?_
 refine A1 rfl (D8 rfl Tryz.call26 rfl (r7 ⟨(nextR d l).1⟩ ⟨(nextR d l).1⟩) (A8 (A0 rfl) (A8 (A0 rfl) C8))) ?_
 refine A1 rfl (J3 rfl (A0 rfl)) ?_
 refine A5 rfl ?_
 refine I3 rfl (fun hc => C4 rfl (A0 rfl)) ?_
 refine I3 rfl (fun hc => C4 rfl (A0 rfl)) ?_
 refine I3 rfl (fun hc => Z1 rfl Tryz.call18 rfl (j6 _ _) (C2 _) (M5 (j8 1 (A9 rfl hc) rfl) (M5 (evb (A9 rfl hc)) T4))) ?_
 refine I3 rfl (fun hc => J3 rfl (A9 rfl hc)) ?_
 refine A1 rfl (P4 rfl (A0 rfl) (F6 rfl)) ?_
 refine A5 rfl ?_
 refine I3 rfl (fun hc => C4 rfl (A0 rfl)) ?_
 refine I3 rfl (fun hc => C4 rfl (A0 rfl)) ?_
 refine I3 rfl (fun hc => o7 rfl O6 (A9 rfl hc) (A9 rfl hc)) ?_
 refine A1 rfl (P4 rfl (A0 rfl) (F6 rfl)) ?_
 refine A4 ?_
 refine C0 (A0 rfl) ?_ ?_
 ·intro h119
  refine A3 (A2 ?_)
  refine A1 rfl (A7 rfl E2) ?_
  refine A4 ?_
  refine B8 ?_
  exact E4 rfl (B7 rfl (by first | rfl | (exfalso; simp_all; done) | (exfalso; simp_all; omega)))
 intro h119
 refine C1 (A3 (A2 ?_))
 refine A1 rfl (A7 rfl B4) ?_
 refine A4 (A3 (A2 ?_))
 refine A5 rfl ?_
 refine A5 rfl ?_
 refine A1 rfl (Z1 rfl Tryz.call22 rfl (q6 (nextR d l).2.1.length 1 ⟨by omega, by omega⟩) (C7 _ _) (M5 (j8 2 (A0 rfl) rfl) (M5 (evb (A0 rfl)) T4))) ?_
 refine B1 rfl ?_
 refine A4 (A3 (A3 (A2 ?_)))
 refine A5 rfl ?_
 refine A1 rfl (F7 rfl (A0 rfl) B4) ?_
 refine A4 ?_
 refine C0 (A0 rfl) ?_ ?_
 ·intro h124
  have k124 := of_decide_eq_true h124; try simp only [A6] at k124
  refine A3 (A2 ?_)
  refine A1 rfl (A7 rfl E2) ?_
  refine A4 ?_
  refine B8 ?_
  exact E4 rfl (B7 rfl (by first | rfl | (exfalso; simp_all; done) | (exfalso; simp_all; omega)))
 intro h124
 have k124 := of_decide_eq_false h124; try simp only [A6] at k124
 refine C1 (A3 (A3 (A2 ?_)))
 refine A5 rfl ?_
 refine A5 rfl ?_
 refine A1 rfl (S2 rfl (A0 rfl) (A0 rfl)) ?_
 refine A4 ?_
 refine C0 (A0 rfl) ?_ ?_
 ·intro h127
  have k127 := N8 h127; try simp only [A6] at k127
  refine A3 (A2 ?_)
  refine A1 rfl (A7 rfl E2) ?_
  refine A4 ?_
  refine B8 ?_
  exact E4 rfl (B7 rfl (by first | rfl | (exfalso; simp_all; done) | (exfalso; simp_all; omega)))
 intro h127
 have k127 := J4 h127; try simp only [A6] at k127
 refine C1 (A3 (A2 ?_))
 refine A1 rfl (A7 rfl E2) ?_
 refine A4 ?_
 refine B8 ?_
 exact E4 rfl (B7 rfl (by first | rfl | (exfalso; simp_all; done) | (exfalso; simp_all; omega)))
end
theorem Z4 : Opens Tryz.prog 3 Int (fun n => [AV.int n]) (fun _ => True) := T0 id (Ax0 T6) (fun _ => rfl) (fun _ _ => trivial)
theorem Aa2 : Opens Tryz.prog 51 TFeeder TFeeder.cs (fun c => True) := T0 (fun p => ⟨p.1⟩) (X2 Tryz.underlying51 (by kernel_rfl) (N2 (m := 1) Z4 rfl (by kernel_rfl) Z9)) (fun _ => rfl) (fun _ _ => trivial)
theorem q7 : Opens Tryz.prog 9 Str (fun s => [AV.str s]) (fun s => s.length ≤ 9223372036854775807) := Ax1 J0
theorem AD6 : Opens Tryz.prog 4 Bool (fun s => [AV.bool s]) (fun _ => True) := As6 O6
theorem As7 : Opens Tryz.prog 217 TVer TVer.cs (fun c => c.ok) := T0 (fun p => ⟨p.1, p.2.1, p.2.2.1⟩) (X2 Tryz.underlying217 (by kernel_rfl) (N2 (m := 1) Z4 rfl (by kernel_rfl) (N2 (m := 1) q7 rfl (by kernel_rfl) (N2 (m := 1) AD6 rfl (by kernel_rfl) Z9)))) (fun _ => rfl) (fun _ h => by exact h.2.1)
theorem Al8 : Opens Tryz.prog 132 (List TVer) (fun l => [AV.list 3 (l.map TVer.cs)]) (fun l => (∀ x ∈ l, x.ok)) := T0 id (Y7 (sz := 3) P8 (by kernel_rfl) As7 (fun _ => rfl)) (fun _ => rfl) (fun _ h => h)
theorem Al9 : Opens Tryz.prog 134 TCell TCell.cs (fun c => c.ok) := T0 (fun p => ⟨p.1, p.2.1⟩) (X2 T5 (by kernel_rfl) (N2 (m := 1) q7 rfl (by kernel_rfl) (N2 (m := 1) Al8 rfl (by kernel_rfl) Z9))) (fun _ => rfl) (fun _ h => by exact ⟨h.1, h.2.1⟩)
theorem Ah4 : Opens Tryz.prog 30 (List TCell) (fun l => [AV.list 2 (l.map TCell.cs)]) (fun l => (∀ x ∈ l, x.ok)) := T0 id (Y7 (sz := 2) Q5 (by kernel_rfl) Al9 (fun _ => rfl)) (fun _ => rfl) (fun _ h => h)
theorem As8 : Opens Tryz.prog 99 (List Str) (fun l => [AV.list 1 (l.map fun x => [AV.str x])]) (fun l => (∀ x ∈ l, x.length ≤ 9223372036854775807)) := T0 id (Y7 (sz := 1) D6 (by kernel_rfl) q7 (fun _ => rfl)) (fun _ => rfl) (fun _ h => h)
theorem Ah5 : Opens Tryz.prog 219 TWrite TWrite.cs (fun c => c.ok) := T0 (fun p => ⟨p.1, p.2.1, p.2.2.1⟩) (X2 U5 (by kernel_rfl) (N2 (m := 1) q7 rfl (by kernel_rfl) (N2 (m := 1) q7 rfl (by kernel_rfl) (N2 (m := 1) AD6 rfl (by kernel_rfl) Z9)))) (fun _ => rfl) (fun _ h => by exact ⟨h.1, h.2.1⟩)
theorem Aa3 : Opens Tryz.prog 136 (List TWrite) (fun l => [AV.list 3 (l.map TWrite.cs)]) (fun l => (∀ x ∈ l, x.ok)) := T0 id (Y7 (sz := 3) P7 (by kernel_rfl) Ah5 (fun _ => rfl)) (fun _ => rfl) (fun _ h => h)
theorem Am0 : Opens Tryz.prog 138 THeld THeld.cs (fun c => c.ok) := T0 (fun p => ⟨p.1, p.2.1, p.2.2.1, p.2.2.2.1, p.2.2.2.2.1⟩) (X2 N7 (by kernel_rfl) (N2 (m := 1) Z4 rfl (by kernel_rfl) (N2 (m := 1) Z4 rfl (by kernel_rfl) (N2 (m := 1) Z4 rfl (by kernel_rfl) (N2 (m := 1) As8 rfl (by kernel_rfl) (N2 (m := 1) Aa3 rfl (by kernel_rfl) Z9)))))) (fun _ => rfl) (fun _ h => by exact ⟨h.2.2.2.1, h.2.2.2.2.1⟩)
theorem Ah6 : Opens Tryz.prog 31 (List THeld) (fun l => [AV.list 5 (l.map THeld.cs)]) (fun l => (∀ x ∈ l, x.ok)) := T0 id (Y7 (sz := 5) Q6 (by kernel_rfl) Am0 (fun _ => rfl)) (fun _ => rfl) (fun _ h => h)
theorem Am1 : Opens Tryz.prog 146 TTold TTold.cs (fun c => True) := T0 (fun p => ⟨p.1, p.2.1, p.2.2.1⟩) (X2 Tryz.underlying146 (by kernel_rfl) (N2 (m := 1) Z4 rfl (by kernel_rfl) (N2 (m := 1) AD6 rfl (by kernel_rfl) (N2 (m := 1) Z4 rfl (by kernel_rfl) Z9)))) (fun _ => rfl) (fun _ _ => trivial)
theorem Ah7 : Opens Tryz.prog 32 (List TTold) (fun l => [AV.list 3 (l.map TTold.cs)]) (fun l => True) := T0 id (Y7 (sz := 3) T1 (by kernel_rfl) Am1 (fun _ => rfl)) (fun _ => rfl) (fun _ _ => trivial)
theorem Ah8 : Opens Tryz.prog 34 TState TState.cs (fun c => c.ok) := T0 (fun p => ⟨p.1, p.2.1, p.2.2.1, p.2.2.2.1⟩) (X2 O7 (by kernel_rfl) (N2 (m := 1) Z4 rfl (by kernel_rfl) (N2 (m := 1) Ah4 rfl (by kernel_rfl) (N2 (m := 1) Ah6 rfl (by kernel_rfl) (N2 (m := 1) Ah7 rfl (by kernel_rfl) Z9))))) (fun _ => rfl) (fun _ h => by exact ⟨h.2.1, h.2.2.1⟩)
theorem Aa4 : Opens Tryz.prog 22 (List TState) (fun l => [AV.list 4 (l.map TState.cs)]) (fun l => (∀ x ∈ l, x.ok)) := T0 id (Y7 (sz := 4) P5 (by kernel_rfl) Ah8 (fun _ => rfl)) (fun _ => rfl) (fun _ h => h)
set_option maxRecDepth 100000 in
theorem fnExactNextFeed_lifted (os : Os) (started : os.Started) (H : Type) (enc : TypeId × Value → H) :
    ReturnsInHanded {} Tryz.checked os 5 .any (Rows.fnExactNextFeedSpec.pre6 enc Tryz.prog Tryz.f5 Rows.fnExactNextFeedRow.domain false) (Rows.fnExactNextFeedSpec.post enc Tryz.prog Tryz.f5 false true false false) := by
  refine returnsInHanded_of_change (C := Tryz.checked) (by kernel_rfl) started (by kernel_rfl) Tryz.func5
    (ChangeSpec.witness6 (enc := enc) (C := Tryz.checked) false ⟨#[], #[.agg #[.int .i64 0], .slice none 0 0], []⟩ 8 (by kernel_rfl) (by kernel_rfl) (by kernel_rfl) (by kernel_rfl)) ?_
  intro W base args ds gs before hval0 hW hcnd _
  have hval : ∀ (j : Nat) t v, Tryz.f5.params[j]? = some t → args[j]? = some v → Value.okWide Tryz.prog W .any base t v := hval0
  have hW2 := hW
  obtain ⟨p, q, hA0, hV, rfl, hfz, hnd⟩ := hW
  have hA : DataW.TrodAll enc Tryz.prog W 0 (fun _ => true) true Tryz.f5.params.toList args.toList ds p := hA0
  rw [Tryz.params5] at hA hval
  obtain ⟨v0, vs0, d0, ds0, p0, q0, hargs, rfl, rfl, h0, r0⟩ := trodAll_cons hA
  obtain ⟨v1, vs1, d1, ds1, p1, q1, rfl, rfl, rfl, h1, r1⟩ := trodAll_cons r0
  obtain ⟨rfl, rfl, rfl⟩ := trodAll_nil r1
  obtain rfl : args = #[v0, v1] := by cases args; simp_all
  obtain ⟨rfl, rfl⟩ := trodVars_none hV
  have lt0 : ∀ x ∈ p0, x.block < W.heap.size := by obtain ⟨m, hm⟩ := h0; exact DataW.trod_lt m _ _ _ hm
  obtain ⟨a0, w0, g0⟩ := arg_agg (Aa2) Tryz.underlying51 (hval 0 51 v0 rfl rfl) h0
  have lt1 : ∀ x ∈ p1, x.block < W.heap.size := by obtain ⟨m, hm⟩ := h1; exact DataW.trod_lt m _ _ _ hm
  obtain ⟨a1, w1, g1⟩ := arg_one (Aa4) (by obtain ⟨y1, y2, y3, rfl⟩ := okWide_slice P5 (hval 1 22 v1 rfl rfl); rfl) h1
  have hcall := Ax2 (AD5 a0 w0 a1 w1) (DenV.cons g0 (DenV.cons g1 (DenV.nil _)))
  clear hA0 hval0
  refine Calls.mono hcall fun e W2 ⟨he, bel⟩ => ?_
  subst he
  exact ⟨_, rfl, _, _, _, [], _, [], hW2, trodAll_mk1 (shut_bool O6 _), (trodAll_cons_mk (Below.trod (by kernel_rfl : laidOutB Tryz.prog = true) (by kernel_rfl) (of_decide_eq_true (by kernel_rfl)) h0 bel lt0) (trodAll_cons_mk (Below.trod (by kernel_rfl : laidOutB Tryz.prog = true) (by kernel_rfl) (of_decide_eq_true (by kernel_rfl)) h1 bel lt1) trodAll_mk0)), rfl, bel.frame _, fun h => by cases h⟩
theorem AE9 {a b : Bool} (h : a = true) (k : b = true) : (a && b) = true := by rw [h, k]; rfl
set_option maxRecDepth 100000 in
theorem AB2 : joinedFacts Tryz.pinned.checked.prog 5 Tryz.f5 Rows.fnExactNextFeedSpec Rows.fnExactNextFeedRow = true := by
  unfold joinedFacts
  iterate 18 (rw [Bool.and_assoc])
  refine AE9 ?_ ?_
  · as_aux_lemma => kernel_rfl
  · as_aux_lemma => kernel_rfl
theorem fnExactNextFeed_proved : Rows.FnExactNextFeedSaid :=
  OpenClaim.holds_of_wide 5 Tryz.f5 rfl rfl rfl rfl rfl rfl rfl ⟨rfl, rfl, rfl, rfl, rfl⟩ rfl rfl rfl rfl rfl (by kernel_rfl) Tryz.func5 AB2
    (of_decide_eq_true (by kernel_rfl)) (by unfold Func.isWrapper; first | (rw [if_pos (by decide +kernel)]; kernel_rfl) | (rw [if_neg (by decide +kernel)]; exact ⟨rfl, rfl⟩))
    (fun os started H enc _ => fnExactNextFeed_lifted os started H enc)
end Go.Proofs.YtkegepoihkhihaaGreat
