/- Texts of the claim, part 4. -/
import Derived.Test.YtkegepoihkhihaaGreatRows
import Derived.Shelf.Sort.Plain
import Derived.Shelf.Slices.In.SortNone
import Derived.Test.YtkegepoihkhihaaGreatProg
import Derived.Test.YtkegepoihkhihaaGreatZNextFeed3

set_option linter.unusedVariables false
set_option linter.unusedSimpArgs false
set_option maxRecDepth 100000
namespace Go.Proofs.YtkegepoihkhihaaGreat
open Go Go.AV Go.M
attribute [local irreducible] OpW OpA OpS AWP FSpec ESpec RetOk RvDen Le Ev GuardIs
theorem Ae0 (a : TWrite) (left : Int) (hok : a.ok) (h0 : 0 ≤ left) (h1 : left ≤ 1048576) : FSpec Tryz.prog 182 [AV.agg a.cs, AV.int left] (AV.int (szR a.size left)) := by
 obtain ⟨oKey, oVal⟩ := hok
 refine D0 Tryz.func182 rfl Tryz.ntmps182 rfl ?_
 refine A3 (A2 ?_)
 refine I6 rfl rfl rfl rfl (A0 rfl) ?_
 intro b2
 refine A1 rfl (A7 rfl B4) ?_
 refine A4 (A3 (A2 ?_))
 refine A5 rfl ?_
 refine A1 rfl (B5 0 rfl U5 rfl D2 (A0 rfl) rfl) ?_
 refine A1 rfl (B2 0 rfl (A0 rfl) rfl E6 rfl) ?_
 refine A1 rfl (a8 rfl J0 (A0 rfl)) ?_
 refine A1 rfl (O8 rfl (A0 rfl) (A0 rfl) (by first | omega | (simp only [D3, B0, szR] at *; omega))) ?_
 refine B1 rfl ?_
 refine A4 (A3 (A3 (A2 ?_)))
 refine A5 rfl ?_
 refine A1 rfl (F7 rfl (A0 rfl) B4) ?_
 refine A4 ?_
 refine C0 (A0 rfl) ?_ ?_
 ·intro h11
  have k11 := of_decide_eq_true h11; try simp only [A6] at k11
  refine A3 (A2 ?_)
  refine A1 rfl (A7 rfl B4) ?_
  refine A4 ?_
  refine B8 ?_
  exact E4 rfl (B7 rfl (by exact congrArg AV.int (by simp only [szR, TWrite.size, decide_eq_true_eq, decide_eq_false_iff_not] at *; omega)))
 intro h11
 have k11 := of_decide_eq_false h11; try simp only [A6] at k11
 refine C1 (A3 (A2 ?_))
 refine A5 rfl ?_
 refine A1 rfl (B5 1 rfl U5 rfl D2 (A0 rfl) rfl) ?_
 refine A1 rfl (B2 0 rfl (A0 rfl) rfl E6 rfl) ?_
 refine A1 rfl (a8 rfl J0 (A0 rfl)) ?_
 refine A1 rfl (O8 rfl (A0 rfl) (A0 rfl) (by first | omega | (simp only [D3, B0, szR] at *; omega))) ?_
 refine B1 rfl ?_
 refine A4 (A3 (A3 (A2 ?_)))
 refine A5 rfl ?_
 refine A1 rfl (F7 rfl (A0 rfl) B4) ?_
 refine A4 ?_
 refine C0 (A0 rfl) ?_ ?_
 ·intro h18
  have k18 := of_decide_eq_true h18; try simp only [A6] at k18
  refine A3 (A2 ?_)
  refine A1 rfl (A7 rfl B4) ?_
  refine A4 ?_
  refine B8 ?_
  exact E4 rfl (B7 rfl (by exact congrArg AV.int (by simp only [szR, TWrite.size, decide_eq_true_eq, decide_eq_false_iff_not] at *; omega)))
 intro h18
 have k18 := of_decide_eq_false h18; try simp only [A6] at k18
 refine C1 (A3 (A2 ?_))
 refine A5 rfl ?_
 refine B1 rfl ?_
 refine A4 ?_
 refine B8 ?_
 exact E4 rfl (B7 rfl (by exact congrArg AV.int (by simp only [szR, TWrite.size, decide_eq_true_eq, decide_eq_false_iff_not] at *; omega)))
theorem AG8 (a : TWrite) (hs : a.size ≤ 1048576) : FSpec Tryz.prog 184 [AV.agg a.cs] (AV.agg a.cs) := by
 unfold TWrite.size at hs
 refine D0 Tryz.func184 rfl Tryz.ntmps184 rfl ?_
 refine A3 (A2 ?_)
 refine I6 rfl rfl rfl rfl (A0 rfl) ?_
 intro b1
 refine I2 rfl rfl rfl rfl Tryz.zeroValue101 rfl ?_
 intro b2
 refine A4 (A3 (A2 ?_))
 refine I2 rfl rfl rfl rfl Tryz.zeroValue101 rfl ?_
 intro b3
 refine A4 (A3 (A2 ?_))
 refine A1 rfl (B5 0 rfl U5 rfl D2 (A0 rfl) rfl) ?_
 refine A1 rfl (B2 2 rfl (A0 rfl) rfl E6 rfl) ?_
 refine A1 rfl (B5 0 rfl G7 rfl D2 (A0 rfl) rfl) ?_
 refine K2 0 rfl rfl rfl (A0 rfl) (A0 rfl) (S5 _) rfl D2 rfl ?_
 refine A4 (A3 (A2 ?_))
 refine A1 rfl (B5 1 rfl U5 rfl D2 (A0 rfl) rfl) ?_
 refine A1 rfl (B2 2 rfl (A0 rfl) rfl E6 rfl) ?_
 refine A1 rfl (B5 1 rfl G7 rfl D2 (A0 rfl) rfl) ?_
 refine K2 0 rfl rfl rfl (A0 rfl) (A0 rfl) (S5 _) rfl D2 rfl ?_
 refine A4 (A3 (A2 ?_))
 refine A1 rfl (B5 2 rfl U5 rfl G3 (A0 rfl) rfl) ?_
 refine A1 rfl (B2 2 rfl (A0 rfl) rfl I9 rfl) ?_
 refine A1 rfl (B5 2 rfl G7 rfl G3 (A0 rfl) rfl) ?_
 refine K2 0 rfl rfl rfl (A0 rfl) (A0 rfl) (f7 _) rfl G3 rfl ?_
 refine A4 (A3 (A2 ?_))
 refine A1 rfl (L5 0 rfl (A0 rfl) rfl Q4 G5 rfl) ?_
 refine G9 1 rfl rfl rfl (A0 rfl) (A0 rfl) (I7 _) rfl G5 rfl ?_
 refine A4 ?_
 refine B8 ?_
 exact E4 rfl (S6 (ys := _) 1 rfl rfl Q4 G5 rfl)
theorem Ae1 (a b : TWrite) : FSpec Tryz.prog 192 [AV.agg a.cs, AV.agg b.cs] (AV.bool (decide (a = b))) := by
 refine D0 Tryz.func192 rfl Tryz.ntmps192 rfl ?_
 refine A3 (A2 ?_)
 refine I6 rfl rfl rfl rfl (A0 rfl) ?_
 intro b2
 refine I6 rfl rfl rfl rfl (A0 rfl) ?_
 intro b3
 refine A1 rfl (A7 rfl E2) ?_
 refine A4 (A3 (A3 (A2 ?_)))
 refine A1 rfl (B5 0 rfl G7 rfl D2 (A0 rfl) rfl) ?_
 refine A1 rfl (B2 1 rfl (A0 rfl) rfl E6 rfl) ?_
 refine A1 rfl (B5 0 rfl G7 rfl D2 (A0 rfl) rfl) ?_
 refine A1 rfl (B2 0 rfl (A0 rfl) rfl E6 rfl) ?_
 refine A1 rfl (a7 rfl (A0 rfl) (A0 rfl)) ?_
 refine A4 ?_
 refine C0 (A0 rfl) ?_ ?_
 ·intro h9
  refine A3 (A2 ?_)
  refine A1 rfl (A7 rfl E2) ?_
  refine A4 ?_
  refine B8 ?_
  exact E4 rfl (B7 rfl (by exact congrArg AV.bool (by cases a; cases b; simp_all)))
 intro h9
 refine C1 (A3 (A3 (A2 ?_)))
 refine A1 rfl (B5 1 rfl G7 rfl D2 (A0 rfl) rfl) ?_
 refine A1 rfl (B2 1 rfl (A0 rfl) rfl E6 rfl) ?_
 refine A1 rfl (B5 1 rfl G7 rfl D2 (A0 rfl) rfl) ?_
 refine A1 rfl (B2 0 rfl (A0 rfl) rfl E6 rfl) ?_
 refine A1 rfl (a7 rfl (A0 rfl) (A0 rfl)) ?_
 refine A4 ?_
 refine C0 (A0 rfl) ?_ ?_
 ·intro h14
  refine A3 (A2 ?_)
  refine A1 rfl (A7 rfl E2) ?_
  refine A4 ?_
  refine B8 ?_
  exact E4 rfl (B7 rfl (by exact congrArg AV.bool (by cases a; cases b; simp_all)))
 intro h14
 refine C1 (A3 (A3 (A2 ?_)))
 refine A1 rfl (B5 2 rfl G7 rfl G3 (A0 rfl) rfl) ?_
 refine A1 rfl (B2 1 rfl (A0 rfl) rfl I9 rfl) ?_
 refine A1 rfl (B5 2 rfl G7 rfl G3 (A0 rfl) rfl) ?_
 refine A1 rfl (B2 0 rfl (A0 rfl) rfl I9 rfl) ?_
 refine A1 rfl (o7 rfl O6 (A0 rfl) (A0 rfl)) ?_
 refine A4 ?_
 refine C0 (A0 rfl) ?_ ?_
 ·intro h19
  refine A3 (A2 ?_)
  refine A1 rfl (A7 rfl E2) ?_
  refine A4 ?_
  refine B8 ?_
  exact E4 rfl (B7 rfl (by exact congrArg AV.bool (by cases a; cases b; simp_all)))
 intro h19
 refine C1 (A3 (A2 ?_))
 refine A1 rfl (A7 rfl E2) ?_
 refine A4 ?_
 refine B8 ?_
 exact E4 rfl (B7 rfl (by exact congrArg AV.bool (by cases a; cases b; simp_all)))
theorem AT2 (l : List Str) (left : Int) (hok : (∀ x ∈ l, x.length ≤ 9223372036854775807)) (h0 : 0 ≤ left) (h1 : left ≤ 1048576) : FSpec Tryz.prog 131 [strs l, AV.int left] (AV.int (szR (sizeL (fun x => x.length) l) left)) := by
 refine D0 Tryz.func131 rfl Tryz.ntmps131 rfl ?_
 refine M6 (t := 0) rfl fun hl => ?_
 try simp only [A6] at hl
 refine A3 (A2 ?_)
 refine A1 rfl (A7 rfl B4) ?_
 refine A4 (A3 (A2 ?_))
 refine A5 rfl ?_
 refine A5 rfl ?_
 refine A1 rfl (E7 rfl D6 (A0 rfl)) ?_
 refine A1 rfl (O8 rfl (A0 rfl) (A0 rfl) (by first | omega | (simp only [D3, B0, szR] at *; omega))) ?_
 refine B1 rfl ?_
 refine A4 (A3 (A3 (A2 ?_)))
 refine A5 rfl ?_
 refine A1 rfl (F7 rfl (A0 rfl) B4) ?_
 refine A4 ?_
 refine C0 (A0 rfl) ?_ ?_
 ·intro h11
  have k11 := of_decide_eq_true h11; try simp only [A6] at k11
  refine A3 (A2 ?_)
  refine A1 rfl (A7 rfl B4) ?_
  refine A4 ?_
  refine B8 ?_
  exact E4 rfl (B7 rfl (by exact congrArg AV.int (by simp only [szR, sizeL, A6, decide_eq_true_eq, decide_eq_false_iff_not] at *; omega)))
 intro h11
 have k11 := of_decide_eq_false h11; try simp only [A6] at k11
 refine C1 (A3 (A3 (A2 ?_)))
 refine A1 rfl (A7 rfl B4) ?_
 refine A4 (C3 ?_)
 refine J7 [(0, _)] _ (fun (i : Nat) (b : Int) => i ≤ l.length ∧ b = left - l.length - (((l.take i).map (fun x => x.length)).sum : Nat) ∧ 0 ≤ b) (fun (i : Nat) (b : Int) => []) (fun (i : Nat) (b : Int) => [(1, AV.int b), (5, AV.int i)]) (fun (i : Nat) (b : Int) => l.length - i) (0) (left - ((l.map fun x => [AV.str x]).length : Int)) ?_ (G6 ⟨rfl, rfl, rfl, trivial⟩) ?_
 ·exact ⟨Nat.zero_le _, by simp, by simp only [A6]; omega⟩
 intro i b hinv
 refine A3 (A3 (A2 ?_))
 refine A5 rfl ?_
 refine A5 rfl ?_
 refine A1 rfl (E7 rfl D6 (A0 rfl)) ?_
 refine A1 rfl (F7 rfl (A0 rfl) (A0 rfl)) ?_
 refine A4 ?_
 refine C0 (A0 rfl) ?_ ?_
 ·intro h15
  have k15 := of_decide_eq_true h15; try simp only [A6] at k15
  have hlt : i < l.length := by omega
  obtain ⟨x, hx⟩ := get_some hlt
  have e2 := p5 (fun x => x.length) l i x hx
  have hokx := hok x (H5 hx)
  refine C1 (A3 (C3 (A3 (A2 ?_))))
  refine A5 rfl ?_
  refine A5 rfl ?_
  refine A5 rfl ?_
  refine A1 rfl (N5 rfl D6 D2 (A0 rfl) (A0 rfl) (by omega) (by simp only [Int.toNat_natCast, List.getElem?_map, hx, Option.map_some]; try rfl)) ?_
  refine A1 rfl (K1 rfl (A0 rfl) E6 rfl) ?_
  refine A1 rfl (a8 rfl J0 (A0 rfl)) ?_
  refine A1 rfl (O8 rfl (A0 rfl) (A0 rfl) (by first | omega | (simp only [D3, B0, szR] at *; omega))) ?_
  refine B1 rfl ?_
  refine A4 (A3 (A2 ?_))
  refine A5 rfl ?_
  refine A1 rfl (F7 rfl (A0 rfl) B4) ?_
  refine A4 ?_
  refine C0 (A0 rfl) ?_ ?_
  ·intro h26
   have k26 := of_decide_eq_true h26; try simp only [A6] at k26
   refine A3 (A2 ?_)
   refine A1 rfl (A7 rfl B4) ?_
   refine A4 ?_
   refine B8 ?_
   exact E4 rfl (B7 rfl (by exact congrArg AV.int (by simp only [szR, sizeL, A6, decide_eq_true_eq, decide_eq_false_iff_not] at *; omega)))
  intro h26
  have k26 := of_decide_eq_false h26; try simp only [A6] at k26
  refine C1 (A2 ?_)
  refine A5 rfl ?_
  refine A1 rfl (E9 rfl (A0 rfl) B4 (by first | omega | (simp only [D3, B0, szR] at *; omega))) ?_
  refine B1 rfl ?_
  refine A4 ?_
  refine J5 i b (i + 1) ((b - (x.length : Int))) ?_ ?_ (G6 ⟨rfl, rfl, rfl, trivial⟩)
  ·exact ⟨by omega, by have e1 := j4 (fun x => x.length) l i x hx; simp only [szR, decide_eq_false_iff_not] at *; omega, by omega⟩
  omega
 intro h15
 have k15 := of_decide_eq_false h15; try simp only [A6] at k15
 have hge : l.length ≤ i := by omega
 have e3 : ((l.take i).map (fun x => x.length)).sum = (l.map (fun x => x.length)).sum := by rw [List.take_of_length_le hge]
 refine F1 ?_
 refine A3 (A2 ?_)
 refine A5 rfl ?_
 refine B1 rfl ?_
 refine A4 ?_
 refine B8 ?_
 exact E4 rfl (B7 rfl (by exact congrArg AV.int (by simp only [szR, sizeL, A6, decide_eq_true_eq, decide_eq_false_iff_not] at *; omega)))
theorem AT3 (l : List Str) (hs : sizeL (fun x => x.length) l ≤ 1048576) : FSpec Tryz.prog 134 [strs l] (strs l) := by
 have hsl : l.length ≤ 1048576 := Nat.le_trans L4 hs
 refine D0 Tryz.func134 rfl Tryz.ntmps134 rfl ?_
 refine A3 (A2 ?_)
 refine A1 rfl (A7 rfl (c0 (sz := 1))) ?_
 refine A4 (A3 (A2 ?_))
 refine A5 rfl ?_
 refine A1 rfl (E7 rfl D6 (A0 rfl)) ?_
 refine W1 (by' := 16) rfl rfl rfl rfl D6 Tryz.type9 rfl rfl rfl rfl rfl rfl (A0 rfl) (A0 rfl) (by simp only [A6]; omega) (by simp only [A6]; omega) ?_
 intro v7
 refine B1 rfl ?_
 refine A4 (A3 (A3 (A2 ?_)))
 refine A1 rfl (A7 rfl B4) ?_
 refine A4 (C3 ?_)
 refine G4 [(0, _), (2, _), (3, _)] _ (fun (i : Nat) => i ≤ l.length) (fun (i : Nat) => [.arr v7 9 1 ((l.take i).map (fun x => [AV.str x]) ++ List.replicate (l.length - i) [AV.str []])]) (fun (i : Nat) => [(4, AV.int i)]) (fun (i : Nat) => l.length - i) (0) ?_ (J9 (by simp only [A6]; rfl) ⟨rfl, rfl, rfl, rfl, trivial⟩) ?_
 ·exact Nat.zero_le _
 intro i hinv
 refine A3 (A3 (A2 ?_))
 refine A5 rfl ?_
 refine A5 rfl ?_
 refine A1 rfl (E7 rfl D6 (A0 rfl)) ?_
 refine A1 rfl (F7 rfl (A0 rfl) (A0 rfl)) ?_
 refine A4 ?_
 refine C0 (A0 rfl) ?_ ?_
 ·intro h11
  have k11 := of_decide_eq_true h11; try simp only [A6] at k11
  have hlt : i < l.length := by omega
  obtain ⟨x, hx⟩ := get_some hlt
  refine C1 (A3 (C3 (A2 ?_)))
  refine A5 rfl ?_
  refine A5 rfl ?_
  refine A5 rfl ?_
  refine A5 rfl ?_
  refine A1 rfl (N5 rfl D6 D2 (A0 rfl) (A0 rfl) (by omega) (by simp only [Int.toNat_natCast, List.getElem?_map, hx, Option.map_some]; try rfl)) ?_
  refine A1 rfl (K1 rfl (A0 rfl) E6 rfl) ?_
  refine A1 rfl (K9 0 rfl D6 D2 (A0 rfl) rfl (A0 rfl) (by omega) (by rw [Q0 hinv]; omega)) ?_
  refine R8 0 rfl rfl rfl (A0 rfl) (A0 rfl) (S5 _) rfl D2 rfl (by rw [Q0 hinv]; omega) ?_
  refine A4 (A2 ?_)
  refine A5 rfl ?_
  refine A1 rfl (E9 rfl (A0 rfl) B4 (by first | omega | (simp only [D3, B0, szR] at *; omega))) ?_
  refine B1 rfl ?_
  refine A4 ?_
  refine H6 i (i + 1) ?_ ?_ (J9 (by exact congrArg (fun z => [Own.arr v7 9 1 z]) (V4 hx)) ⟨rfl, rfl, rfl, rfl, trivial⟩)
  ·omega
  omega
 intro h11
 have k11 := of_decide_eq_false h11; try simp only [A6] at k11
 have hge : l.length ≤ i := by omega
 rw [V5 hge]
 refine F1 ?_
 refine A3 (A2 ?_)
 refine A5 rfl ?_
 refine B1 rfl ?_
 refine A4 ?_
 refine B8 ?_
 refine c9 0 2 rfl rfl ?_
 exact E4 rfl (B7 rfl (by first | rfl | (refine congrArg AV.bool ?_; simp_all; done)))
theorem AT4 (a b : List Str) : FSpec Tryz.prog 147 [strs a, strs b] (AV.bool (decide (a = b))) := by
 refine D0 Tryz.func147 rfl Tryz.ntmps147 rfl ?_
 refine M6 (t := 0) rfl fun hl => ?_
 try simp only [A6] at hl
 refine A3 (A2 ?_)
 refine A1 rfl (A7 rfl E2) ?_
 refine A4 (A3 (A3 (A2 ?_)))
 refine A5 rfl ?_
 refine A1 rfl (E7 rfl D6 (A0 rfl)) ?_
 refine A5 rfl ?_
 refine A1 rfl (E7 rfl D6 (A0 rfl)) ?_
 refine A1 rfl (S2 rfl (A0 rfl) (A0 rfl)) ?_
 refine A4 ?_
 refine C0 (A0 rfl) ?_ ?_
 ·intro h10
  have k10 := N8 h10; try simp only [A6] at k10
  have hab : a ≠ b := by intro hc; subst hc; exact k10 rfl
  refine A3 (A2 ?_)
  refine A1 rfl (A7 rfl E2) ?_
  refine A4 ?_
  refine B8 ?_
  exact E4 rfl (B7 rfl (by exact congrArg AV.bool (by simp [hab])))
 intro h10
 have k10 := J4 h10; try simp only [A6] at k10
 have heq : a.length = b.length := by omega
 refine C1 (A3 (A3 (A2 ?_)))
 refine A1 rfl (A7 rfl B4) ?_
 refine A4 (C3 ?_)
 refine G4 [(0, _), (1, _)] _ (fun (i : Nat) => i ≤ a.length ∧ a.take i = b.take i) (fun (i : Nat) => []) (fun (i : Nat) => [(5, AV.int i)]) (fun (i : Nat) => a.length - i) (0) ?_ (G6 ⟨rfl, rfl, rfl, trivial⟩) ?_
 ·exact ⟨Nat.zero_le _, rfl⟩
 intro i hinv
 refine A3 (A3 (A2 ?_))
 refine A5 rfl ?_
 refine A5 rfl ?_
 refine A1 rfl (E7 rfl D6 (A0 rfl)) ?_
 refine A1 rfl (F7 rfl (A0 rfl) (A0 rfl)) ?_
 refine A4 ?_
 refine C0 (A0 rfl) ?_ ?_
 ·intro h14
  have k14 := of_decide_eq_true h14; try simp only [A6] at k14
  have hlt : i < a.length := by omega
  obtain ⟨x, hx⟩ := get_some hlt
  obtain ⟨y, hy⟩ := get_some (show i < b.length by omega)
  refine C1 (A3 (C3 (A3 ?_)))
  refine H7 (by kernel_rfl) (by kernel_rfl) rfl ?_
  refine B3 rfl rfl (C4 rfl (A0 rfl)) ?_
  refine B3 rfl rfl (C4 rfl (A0 rfl)) ?_
  refine B3 rfl rfl (N5 rfl D6 D2 (A0 rfl) (A0 rfl) (by omega) (by simp only [Int.toNat_natCast, List.getElem?_map, hx, Option.map_some]; try rfl)) ?_
  refine B3 rfl rfl (K1 rfl (A0 rfl) E6 rfl) ?_
  refine B3 rfl rfl (C4 rfl (A0 rfl)) ?_
  refine B3 rfl rfl (C4 rfl (A0 rfl)) ?_
  refine B3 rfl rfl (N5 rfl D6 D2 (A0 rfl) (A0 rfl) (by omega) (by simp only [Int.toNat_natCast, List.getElem?_map, hy, Option.map_some]; try rfl)) ?_
  refine B3 rfl rfl (K1 rfl (A0 rfl) E6 rfl) ?_
  refine B3 rfl rfl (a7 rfl (A0 rfl) (A0 rfl)) ?_
  refine O4 ?_
  refine C0 (A0 rfl) ?_ ?_
  ·intro h25
   have hab : a ≠ b := by intro hc; subst hc; rw [hx] at hy; injection hy with hy; subst hy; simp at h25
   refine A3 (A2 ?_)
   refine A1 rfl (A7 rfl E2) ?_
   refine A4 ?_
   refine B8 ?_
   exact E4 rfl (B7 rfl (by exact congrArg AV.bool (by simp [hab])))
  intro h25
  refine C1 (A2 ?_)
  refine A5 rfl ?_
  refine A1 rfl (E9 rfl (A0 rfl) B4 (by first | omega | (simp only [D3, B0, szR] at *; omega))) ?_
  refine B1 rfl ?_
  refine A4 ?_
  refine H6 i (i + 1) ?_ ?_ (G6 ⟨rfl, rfl, rfl, trivial⟩)
  ·exact ⟨by omega, V7 hinv.2 hx (by rw [hy]; congr 1; simp_all)⟩
  omega
 intro h14
 have k14 := of_decide_eq_false h14; try simp only [A6] at k14
 have hge : a.length ≤ i := by omega
 have hab : a = b := Y2 heq hinv.2 hge
 refine F1 ?_
 refine A3 (A2 ?_)
 refine A1 rfl (A7 rfl E2) ?_
 refine A4 ?_
 refine B8 ?_
 exact E4 rfl (B7 rfl (by exact congrArg AV.bool (by simp [hab])))
theorem AY6 (l : List TWrite) (left : Int) (hok : (∀ x ∈ l, x.ok)) (h0 : 0 ≤ left) (h1 : left ≤ 1048576) : FSpec Tryz.prog 132 [AV.list 3 (l.map TWrite.cs), AV.int left] (AV.int (szR (sizeL TWrite.size l) left)) := by
 refine D0 Tryz.func132 rfl Tryz.ntmps132 rfl ?_
 refine M6 (t := 0) rfl fun hl => ?_
 try simp only [A6] at hl
 refine A3 (A2 ?_)
 refine A1 rfl (A7 rfl B4) ?_
 refine A4 (A3 (A2 ?_))
 refine A5 rfl ?_
 refine A5 rfl ?_
 refine A1 rfl (E7 rfl P7 (A0 rfl)) ?_
 refine A1 rfl (O8 rfl (A0 rfl) (A0 rfl) (by first | omega | (simp only [D3, B0, szR] at *; omega))) ?_
 refine B1 rfl ?_
 refine A4 (A3 (A3 (A2 ?_)))
 refine A5 rfl ?_
 refine A1 rfl (F7 rfl (A0 rfl) B4) ?_
 refine A4 ?_
 refine C0 (A0 rfl) ?_ ?_
 ·intro h11
  have k11 := of_decide_eq_true h11; try simp only [A6] at k11
  refine A3 (A2 ?_)
  refine A1 rfl (A7 rfl B4) ?_
  refine A4 ?_
  refine B8 ?_
  exact E4 rfl (B7 rfl (by exact congrArg AV.int (by simp only [szR, sizeL, A6, decide_eq_true_eq, decide_eq_false_iff_not] at *; omega)))
 intro h11
 have k11 := of_decide_eq_false h11; try simp only [A6] at k11
 refine C1 (A3 (A3 (A2 ?_)))
 refine A1 rfl (A7 rfl B4) ?_
 refine A4 (C3 ?_)
 refine J7 [(0, _)] _ (fun (i : Nat) (b : Int) => i ≤ l.length ∧ b = left - l.length - (((l.take i).map TWrite.size).sum : Nat) ∧ 0 ≤ b) (fun (i : Nat) (b : Int) => []) (fun (i : Nat) (b : Int) => [(1, AV.int b), (5, AV.int i)]) (fun (i : Nat) (b : Int) => l.length - i) (0) (left - ((l.map fun x => TWrite.cs x).length : Int)) ?_ (G6 ⟨rfl, rfl, rfl, trivial⟩) ?_
 ·exact ⟨Nat.zero_le _, by simp, by simp only [A6]; omega⟩
 intro i b hinv
 refine A3 (A3 (A2 ?_))
 refine A5 rfl ?_
 refine A5 rfl ?_
 refine A1 rfl (E7 rfl P7 (A0 rfl)) ?_
 refine A1 rfl (F7 rfl (A0 rfl) (A0 rfl)) ?_
 refine A4 ?_
 refine C0 (A0 rfl) ?_ ?_
 ·intro h15
  have k15 := of_decide_eq_true h15; try simp only [A6] at k15
  have hlt : i < l.length := by omega
  obtain ⟨x, hx⟩ := get_some hlt
  have e2 := p5 TWrite.size l i x hx
  have hokx := hok x (H5 hx)
  refine C1 (A3 (C3 (A3 (A2 ?_))))
  refine A5 rfl ?_
  refine A5 rfl ?_
  refine A1 rfl (N5 rfl P7 X6 (A0 rfl) (A0 rfl) (by omega) (by simp only [Int.toNat_natCast, List.getElem?_map, hx, Option.map_some]; try rfl)) ?_
  refine A1 rfl (H0 rfl (A0 rfl) Tryz.isAgg219 X6) ?_
  refine A5 rfl ?_
  refine A1 rfl (D8 rfl Tryz.call182 rfl (Ae0 _ _ (by assumption) (by first | omega | (simp only [D3, B0, szR] at *; omega)) (by first | omega | (simp only [D3, B0, szR] at *; omega))) (A8 (A0 rfl) (A8 (A0 rfl) C8))) ?_
  refine B1 rfl ?_
  refine A4 (A3 (A2 ?_))
  refine A5 rfl ?_
  refine A1 rfl (F7 rfl (A0 rfl) B4) ?_
  refine A4 ?_
  refine C0 (A0 rfl) ?_ ?_
  ·intro h25
   have k25 := of_decide_eq_true h25; try simp only [A6] at k25
   refine A3 (A2 ?_)
   refine A1 rfl (A7 rfl B4) ?_
   refine A4 ?_
   refine B8 ?_
   exact E4 rfl (B7 rfl (by exact congrArg AV.int (by simp only [szR, sizeL, A6, decide_eq_true_eq, decide_eq_false_iff_not] at *; omega)))
  intro h25
  have k25 := of_decide_eq_false h25; try simp only [A6] at k25
  refine C1 (A2 ?_)
  refine A5 rfl ?_
  refine A1 rfl (E9 rfl (A0 rfl) B4 (by first | omega | (simp only [D3, B0, szR] at *; omega))) ?_
  refine B1 rfl ?_
  refine A4 ?_
  refine J5 i b (i + 1) ((szR (TWrite.size x) b)) ?_ ?_ (G6 ⟨rfl, rfl, rfl, trivial⟩)
  ·exact ⟨by omega, by have e1 := j4 TWrite.size l i x hx; simp only [szR, decide_eq_false_iff_not] at *; omega, by omega⟩
  omega
 intro h15
 have k15 := of_decide_eq_false h15; try simp only [A6] at k15
 have hge : l.length ≤ i := by omega
 have e3 : ((l.take i).map TWrite.size).sum = (l.map TWrite.size).sum := by rw [List.take_of_length_le hge]
 refine F1 ?_
 refine A3 (A2 ?_)
 refine A5 rfl ?_
 refine B1 rfl ?_
 refine A4 ?_
 refine B8 ?_
 exact E4 rfl (B7 rfl (by exact congrArg AV.int (by simp only [szR, sizeL, A6, decide_eq_true_eq, decide_eq_false_iff_not] at *; omega)))
theorem AY7 (l : List TWrite) (hs : sizeL TWrite.size l ≤ 1048576) : FSpec Tryz.prog 135 [AV.list 3 (l.map TWrite.cs)] (AV.list 3 (l.map TWrite.cs)) := by
 have hsl : l.length ≤ 1048576 := Nat.le_trans L4 hs
 refine D0 Tryz.func135 rfl Tryz.ntmps135 rfl ?_
 refine A3 (A2 ?_)
 refine A1 rfl (A7 rfl (c0 (sz := 3))) ?_
 refine A4 (A3 (A2 ?_))
 refine A5 rfl ?_
 refine A1 rfl (E7 rfl P7 (A0 rfl)) ?_
 refine W1 (by' := 40) rfl rfl rfl rfl F0 Tryz.type101 rfl rfl rfl rfl rfl rfl (A0 rfl) (A0 rfl) (by simp only [A6]; omega) (by simp only [A6]; omega) ?_
 intro v7
 refine B1 rfl ?_
 refine A4 (A3 (A3 (A2 ?_)))
 refine A1 rfl (A7 rfl B4) ?_
 refine A4 (C3 ?_)
 refine G4 [(0, _), (2, _), (3, _)] _ (fun (i : Nat) => i ≤ l.length) (fun (i : Nat) => [.arr v7 101 3 ((l.take i).map TWrite.cs ++ List.replicate (l.length - i) [AV.str [], AV.str [], AV.bool false])]) (fun (i : Nat) => [(4, AV.int i)]) (fun (i : Nat) => l.length - i) (0) ?_ (J9 (by simp only [A6]; rfl) ⟨rfl, rfl, rfl, rfl, trivial⟩) ?_
 ·exact Nat.zero_le _
 intro i hinv
 refine A3 (A3 (A2 ?_))
 refine A5 rfl ?_
 refine A5 rfl ?_
 refine A1 rfl (E7 rfl P7 (A0 rfl)) ?_
 refine A1 rfl (F7 rfl (A0 rfl) (A0 rfl)) ?_
 refine A4 ?_
 refine C0 (A0 rfl) ?_ ?_
 ·intro h11
  have k11 := of_decide_eq_true h11; try simp only [A6] at k11
  have hlt : i < l.length := by omega
  obtain ⟨x, hx⟩ := get_some hlt
  have hsx : TWrite.size x ≤ 1048576 := Nat.le_trans (Q1 hx) hs
  refine C1 (A3 (C3 (A2 ?_)))
  refine A5 rfl ?_
  refine A5 rfl ?_
  refine A5 rfl ?_
  refine A5 rfl ?_
  refine A1 rfl (N5 rfl P7 X6 (A0 rfl) (A0 rfl) (by omega) (by simp only [Int.toNat_natCast, List.getElem?_map, hx, Option.map_some]; try rfl)) ?_
  refine A1 rfl (H0 rfl (A0 rfl) Tryz.isAgg219 X6) ?_
  refine A1 rfl (D8 rfl Tryz.call184 rfl (AG8 _ (by first | assumption | omega | (simp only [] at *; omega))) (A8 (A0 rfl) C8)) ?_
  refine A1 rfl (K9 0 rfl F0 G5 (A0 rfl) rfl (A0 rfl) (by omega) (by rw [Q0 hinv]; omega)) ?_
  refine R8 0 rfl rfl rfl (A0 rfl) (A0 rfl) (I7 _) rfl G5 rfl (by rw [Q0 hinv]; omega) ?_
  refine A4 (A2 ?_)
  refine A5 rfl ?_
  refine A1 rfl (E9 rfl (A0 rfl) B4 (by first | omega | (simp only [D3, B0, szR] at *; omega))) ?_
  refine B1 rfl ?_
  refine A4 ?_
  refine H6 i (i + 1) ?_ ?_ (J9 (by exact congrArg (fun z => [Own.arr v7 101 3 z]) (V4 hx)) ⟨rfl, rfl, rfl, rfl, trivial⟩)
  ·omega
  omega
 intro h11
 have k11 := of_decide_eq_false h11; try simp only [A6] at k11
 have hge : l.length ≤ i := by omega
 rw [V5 hge]
 refine F1 ?_
 refine A3 (A2 ?_)
 refine A5 rfl ?_
 refine B1 rfl ?_
 refine A4 ?_
 refine B8 ?_
 refine c9 0 2 rfl rfl ?_
 exact E4 rfl (B7 rfl (by first | rfl | (refine congrArg AV.bool ?_; simp_all; done)))
theorem AY8 (a b : List TWrite) : FSpec Tryz.prog 148 [AV.list 3 (a.map TWrite.cs), AV.list 3 (b.map TWrite.cs)] (AV.bool (decide (a = b))) := by
 refine D0 Tryz.func148 rfl Tryz.ntmps148 rfl ?_
 refine M6 (t := 0) rfl fun hl => ?_
 try simp only [A6] at hl
 refine A3 (A2 ?_)
 refine A1 rfl (A7 rfl E2) ?_
 refine A4 (A3 (A3 (A2 ?_)))
 refine A5 rfl ?_
 refine A1 rfl (E7 rfl F0 (A0 rfl)) ?_
 refine A5 rfl ?_
 refine A1 rfl (E7 rfl F0 (A0 rfl)) ?_
 refine A1 rfl (S2 rfl (A0 rfl) (A0 rfl)) ?_
 refine A4 ?_
 refine C0 (A0 rfl) ?_ ?_
 ·intro h10
  have k10 := N8 h10; try simp only [A6] at k10
  have hab : a ≠ b := by intro hc; subst hc; exact k10 rfl
  refine A3 (A2 ?_)
  refine A1 rfl (A7 rfl E2) ?_
  refine A4 ?_
  refine B8 ?_
  exact E4 rfl (B7 rfl (by exact congrArg AV.bool (by simp [hab])))
 intro h10
 have k10 := J4 h10; try simp only [A6] at k10
 have heq : a.length = b.length := by omega
 refine C1 (A3 (A3 (A2 ?_)))
 refine A1 rfl (A7 rfl B4) ?_
 refine A4 (C3 ?_)
 refine G4 [(0, _), (1, _)] _ (fun (i : Nat) => i ≤ a.length ∧ a.take i = b.take i) (fun (i : Nat) => []) (fun (i : Nat) => [(5, AV.int i)]) (fun (i : Nat) => a.length - i) (0) ?_ (G6 ⟨rfl, rfl, rfl, trivial⟩) ?_
 ·exact ⟨Nat.zero_le _, rfl⟩
 intro i hinv
 refine A3 (A3 (A2 ?_))
 refine A5 rfl ?_
 refine A5 rfl ?_
 refine A1 rfl (E7 rfl F0 (A0 rfl)) ?_
 refine A1 rfl (F7 rfl (A0 rfl) (A0 rfl)) ?_
 refine A4 ?_
 refine C0 (A0 rfl) ?_ ?_
 ·intro h14
  have k14 := of_decide_eq_true h14; try simp only [A6] at k14
  have hlt : i < a.length := by omega
  obtain ⟨x, hx⟩ := get_some hlt
  obtain ⟨y, hy⟩ := get_some (show i < b.length by omega)
  refine C1 (A3 (C3 (A3 ?_)))
  refine H7 (by kernel_rfl) (by kernel_rfl) rfl ?_
  refine B3 rfl rfl (C4 rfl (A0 rfl)) ?_
  refine B3 rfl rfl (C4 rfl (A0 rfl)) ?_
  refine B3 rfl rfl (N5 rfl F0 G5 (A0 rfl) (A0 rfl) (by omega) (by simp only [Int.toNat_natCast, List.getElem?_map, hx, Option.map_some]; try rfl)) ?_
  refine B3 rfl rfl (H0 rfl (A0 rfl) Q4 G5) ?_
  refine B3 rfl rfl (C4 rfl (A0 rfl)) ?_
  refine B3 rfl rfl (C4 rfl (A0 rfl)) ?_
  refine B3 rfl rfl (N5 rfl F0 G5 (A0 rfl) (A0 rfl) (by omega) (by simp only [Int.toNat_natCast, List.getElem?_map, hy, Option.map_some]; try rfl)) ?_
  refine B3 rfl rfl (H0 rfl (A0 rfl) Q4 G5) ?_
  refine B3 rfl rfl (D8 rfl Tryz.call192 rfl (Ae1 _ _) (A8 (A0 rfl) (A8 (A0 rfl) C8))) ?_
  refine B3 rfl rfl (J3 rfl (A0 rfl)) ?_
  refine O4 ?_
  refine C0 (A0 rfl) ?_ ?_
  ·intro h26
   have hab : a ≠ b := by intro hc; subst hc; rw [hx] at hy; injection hy with hy; subst hy; simp at h26
   refine A3 (A2 ?_)
   refine A1 rfl (A7 rfl E2) ?_
   refine A4 ?_
   refine B8 ?_
   exact E4 rfl (B7 rfl (by exact congrArg AV.bool (by simp [hab])))
  intro h26
  refine C1 (A2 ?_)
  refine A5 rfl ?_
  refine A1 rfl (E9 rfl (A0 rfl) B4 (by first | omega | (simp only [D3, B0, szR] at *; omega))) ?_
  refine B1 rfl ?_
  refine A4 ?_
  refine H6 i (i + 1) ?_ ?_ (G6 ⟨rfl, rfl, rfl, trivial⟩)
  ·exact ⟨by omega, V7 hinv.2 hx (by rw [hy]; congr 1; simp_all)⟩
  omega
 intro h14
 have k14 := of_decide_eq_false h14; try simp only [A6] at k14
 have hge : a.length ≤ i := by omega
 have hab : a = b := Y2 heq hinv.2 hge
 refine F1 ?_
 refine A3 (A2 ?_)
 refine A1 rfl (A7 rfl E2) ?_
 refine A4 ?_
 refine B8 ?_
 exact E4 rfl (B7 rfl (by exact congrArg AV.bool (by simp [hab])))
theorem Ar0 (a : TVer) (left : Int) (hok : a.ok) (h0 : 0 ≤ left) (h1 : left ≤ 1048576) : FSpec Tryz.prog 181 [AV.agg a.cs, AV.int left] (AV.int (szR a.size left)) := by
 have oVal := hok; unfold TVer.ok at oVal
 refine D0 Tryz.func181 rfl Tryz.ntmps181 rfl ?_
 refine A3 (A2 ?_)
 refine I6 rfl rfl rfl rfl (A0 rfl) ?_
 intro b2
 refine A1 rfl (A7 rfl B4) ?_
 refine A4 (A3 (A2 ?_))
 refine A5 rfl ?_
 refine A1 rfl (B5 1 rfl Tryz.underlying217 rfl D2 (A0 rfl) rfl) ?_
 refine A1 rfl (B2 0 rfl (A0 rfl) rfl E6 rfl) ?_
 refine A1 rfl (a8 rfl J0 (A0 rfl)) ?_
 refine A1 rfl (O8 rfl (A0 rfl) (A0 rfl) (by first | omega | (simp only [D3, B0, szR] at *; omega))) ?_
 refine B1 rfl ?_
 refine A4 (A3 (A3 (A2 ?_)))
 refine A5 rfl ?_
 refine A1 rfl (F7 rfl (A0 rfl) B4) ?_
 refine A4 ?_
 refine C0 (A0 rfl) ?_ ?_
 ·intro h11
  have k11 := of_decide_eq_true h11; try simp only [A6] at k11
  refine A3 (A2 ?_)
  refine A1 rfl (A7 rfl B4) ?_
  refine A4 ?_
  refine B8 ?_
  exact E4 rfl (B7 rfl (by exact congrArg AV.int (by simp only [szR, TVer.size, decide_eq_true_eq, decide_eq_false_iff_not] at *; omega)))
 intro h11
 have k11 := of_decide_eq_false h11; try simp only [A6] at k11
 refine C1 (A3 (A2 ?_))
 refine A5 rfl ?_
 refine B1 rfl ?_
 refine A4 ?_
 refine B8 ?_
 exact E4 rfl (B7 rfl (by exact congrArg AV.int (by simp only [szR, TVer.size, decide_eq_true_eq, decide_eq_false_iff_not] at *; omega)))
theorem AP3 (a : TVer) (hs : a.size ≤ 1048576) : FSpec Tryz.prog 183 [AV.agg a.cs] (AV.agg a.cs) := by
 unfold TVer.size at hs
 refine D0 Tryz.func183 rfl Tryz.ntmps183 rfl ?_
 refine A3 (A2 ?_)
 refine I6 rfl rfl rfl rfl (A0 rfl) ?_
 intro b1
 refine I2 rfl rfl rfl rfl Tryz.zeroValue127 rfl ?_
 intro b2
 refine A4 (A3 (A2 ?_))
 refine I2 rfl rfl rfl rfl Tryz.zeroValue127 rfl ?_
 intro b3
 refine A4 (A3 (A2 ?_))
 refine A1 rfl (B5 0 rfl Tryz.underlying217 rfl B9 (A0 rfl) rfl) ?_
 refine A1 rfl (B2 2 rfl (A0 rfl) rfl D1 rfl) ?_
 refine A1 rfl (B5 0 rfl G2 rfl B9 (A0 rfl) rfl) ?_
 refine K2 0 rfl rfl rfl (A0 rfl) (A0 rfl) (P0 _ _) rfl B9 rfl ?_
 refine A4 (A3 (A2 ?_))
 refine A1 rfl (B5 1 rfl Tryz.underlying217 rfl D2 (A0 rfl) rfl) ?_
 refine A1 rfl (B2 2 rfl (A0 rfl) rfl E6 rfl) ?_
 refine A1 rfl (B5 1 rfl G2 rfl D2 (A0 rfl) rfl) ?_
 refine K2 0 rfl rfl rfl (A0 rfl) (A0 rfl) (S5 _) rfl D2 rfl ?_
 refine A4 (A3 (A2 ?_))
 refine A1 rfl (B5 2 rfl Tryz.underlying217 rfl G3 (A0 rfl) rfl) ?_
 refine A1 rfl (B2 2 rfl (A0 rfl) rfl I9 rfl) ?_
 refine A1 rfl (B5 2 rfl G2 rfl G3 (A0 rfl) rfl) ?_
 refine K2 0 rfl rfl rfl (A0 rfl) (A0 rfl) (f7 _) rfl G3 rfl ?_
 refine A4 (A3 (A2 ?_))
 refine A1 rfl (L5 0 rfl (A0 rfl) rfl W0 J1 rfl) ?_
 refine G9 1 rfl rfl rfl (A0 rfl) (A0 rfl) (I7 _) rfl J1 rfl ?_
 refine A4 ?_
 refine B8 ?_
 exact E4 rfl (S6 (ys := _) 1 rfl rfl W0 J1 rfl)
theorem Ar1 (a b : TVer) : FSpec Tryz.prog 191 [AV.agg a.cs, AV.agg b.cs] (AV.bool (decide (a = b))) := by
 refine D0 Tryz.func191 rfl Tryz.ntmps191 rfl ?_
 refine A3 (A2 ?_)
 refine I6 rfl rfl rfl rfl (A0 rfl) ?_
 intro b2
 refine I6 rfl rfl rfl rfl (A0 rfl) ?_
 intro b3
 refine A1 rfl (A7 rfl E2) ?_
 refine A4 (A3 (A3 (A2 ?_)))
 refine A1 rfl (B5 0 rfl G2 rfl B9 (A0 rfl) rfl) ?_
 refine A1 rfl (B2 1 rfl (A0 rfl) rfl D1 rfl) ?_
 refine A1 rfl (B5 0 rfl G2 rfl B9 (A0 rfl) rfl) ?_
 refine A1 rfl (B2 0 rfl (A0 rfl) rfl D1 rfl) ?_
 refine A1 rfl (S2 rfl (A0 rfl) (A0 rfl)) ?_
 refine A4 ?_
 refine C0 (A0 rfl) ?_ ?_
 ·intro h9
  have k9 := N8 h9; try simp only [A6] at k9
  refine A3 (A2 ?_)
  refine A1 rfl (A7 rfl E2) ?_
  refine A4 ?_
  refine B8 ?_
  exact E4 rfl (B7 rfl (by exact congrArg AV.bool (by cases a; cases b; simp_all)))
 intro h9
 have k9 := J4 h9; try simp only [A6] at k9
 refine C1 (A3 (A3 (A2 ?_)))
 refine A1 rfl (B5 1 rfl G2 rfl D2 (A0 rfl) rfl) ?_
 refine A1 rfl (B2 1 rfl (A0 rfl) rfl E6 rfl) ?_
 refine A1 rfl (B5 1 rfl G2 rfl D2 (A0 rfl) rfl) ?_
 refine A1 rfl (B2 0 rfl (A0 rfl) rfl E6 rfl) ?_
 refine A1 rfl (a7 rfl (A0 rfl) (A0 rfl)) ?_
 refine A4 ?_
 refine C0 (A0 rfl) ?_ ?_
 ·intro h14
  refine A3 (A2 ?_)
  refine A1 rfl (A7 rfl E2) ?_
  refine A4 ?_
  refine B8 ?_
  exact E4 rfl (B7 rfl (by exact congrArg AV.bool (by cases a; cases b; simp_all)))
 intro h14
 refine C1 (A3 (A3 (A2 ?_)))
 refine A1 rfl (B5 2 rfl G2 rfl G3 (A0 rfl) rfl) ?_
 refine A1 rfl (B2 1 rfl (A0 rfl) rfl I9 rfl) ?_
 refine A1 rfl (B5 2 rfl G2 rfl G3 (A0 rfl) rfl) ?_
 refine A1 rfl (B2 0 rfl (A0 rfl) rfl I9 rfl) ?_
 refine A1 rfl (o7 rfl O6 (A0 rfl) (A0 rfl)) ?_
 refine A4 ?_
 refine C0 (A0 rfl) ?_ ?_
 ·intro h19
  refine A3 (A2 ?_)
  refine A1 rfl (A7 rfl E2) ?_
  refine A4 ?_
  refine B8 ?_
  exact E4 rfl (B7 rfl (by exact congrArg AV.bool (by cases a; cases b; simp_all)))
 intro h19
 refine C1 (A3 (A2 ?_))
 refine A1 rfl (A7 rfl E2) ?_
 refine A4 ?_
 refine B8 ?_
 exact E4 rfl (B7 rfl (by exact congrArg AV.bool (by cases a; cases b; simp_all)))
theorem Aj5 (l : List TVer) (left : Int) (hok : (∀ x ∈ l, x.ok)) (h0 : 0 ≤ left) (h1 : left ≤ 1048576) : FSpec Tryz.prog 130 [AV.list 3 (l.map TVer.cs), AV.int left] (AV.int (szR (sizeL TVer.size l) left)) := by
 refine D0 Tryz.func130 rfl Tryz.ntmps130 rfl ?_
 refine M6 (t := 0) rfl fun hl => ?_
 try simp only [A6] at hl
 refine A3 (A2 ?_)
 refine A1 rfl (A7 rfl B4) ?_
 refine A4 (A3 (A2 ?_))
 refine A5 rfl ?_
 refine A5 rfl ?_
 refine A1 rfl (E7 rfl P8 (A0 rfl)) ?_
 refine A1 rfl (O8 rfl (A0 rfl) (A0 rfl) (by first | omega | (simp only [D3, B0, szR] at *; omega))) ?_
 refine B1 rfl ?_
 refine A4 (A3 (A3 (A2 ?_)))
 refine A5 rfl ?_
 refine A1 rfl (F7 rfl (A0 rfl) B4) ?_
 refine A4 ?_
 refine C0 (A0 rfl) ?_ ?_
 ·intro h11
  have k11 := of_decide_eq_true h11; try simp only [A6] at k11
  refine A3 (A2 ?_)
  refine A1 rfl (A7 rfl B4) ?_
  refine A4 ?_
  refine B8 ?_
  exact E4 rfl (B7 rfl (by exact congrArg AV.int (by simp only [szR, sizeL, A6, decide_eq_true_eq, decide_eq_false_iff_not] at *; omega)))
 intro h11
 have k11 := of_decide_eq_false h11; try simp only [A6] at k11
 refine C1 (A3 (A3 (A2 ?_)))
 refine A1 rfl (A7 rfl B4) ?_
 refine A4 (C3 ?_)
 refine J7 [(0, _)] _ (fun (i : Nat) (b : Int) => i ≤ l.length ∧ b = left - l.length - (((l.take i).map TVer.size).sum : Nat) ∧ 0 ≤ b) (fun (i : Nat) (b : Int) => []) (fun (i : Nat) (b : Int) => [(1, AV.int b), (5, AV.int i)]) (fun (i : Nat) (b : Int) => l.length - i) (0) (left - ((l.map fun x => TVer.cs x).length : Int)) ?_ (G6 ⟨rfl, rfl, rfl, trivial⟩) ?_
 ·exact ⟨Nat.zero_le _, by simp, by simp only [A6]; omega⟩
 intro i b hinv
 refine A3 (A3 (A2 ?_))
 refine A5 rfl ?_
 refine A5 rfl ?_
 refine A1 rfl (E7 rfl P8 (A0 rfl)) ?_
 refine A1 rfl (F7 rfl (A0 rfl) (A0 rfl)) ?_
 refine A4 ?_
 refine C0 (A0 rfl) ?_ ?_
 ·intro h15
  have k15 := of_decide_eq_true h15; try simp only [A6] at k15
  have hlt : i < l.length := by omega
  obtain ⟨x, hx⟩ := get_some hlt
  have e2 := p5 TVer.size l i x hx
  have hokx := hok x (H5 hx)
  refine C1 (A3 (C3 (A3 (A2 ?_))))
  refine A5 rfl ?_
  refine A5 rfl ?_
  refine A1 rfl (N5 rfl P8 X7 (A0 rfl) (A0 rfl) (by omega) (by simp only [Int.toNat_natCast, List.getElem?_map, hx, Option.map_some]; try rfl)) ?_
  refine A1 rfl (H0 rfl (A0 rfl) Tryz.isAgg217 X7) ?_
  refine A5 rfl ?_
  refine A1 rfl (D8 rfl Tryz.call181 rfl (Ar0 _ _ (by assumption) (by first | omega | (simp only [D3, B0, szR] at *; omega)) (by first | omega | (simp only [D3, B0, szR] at *; omega))) (A8 (A0 rfl) (A8 (A0 rfl) C8))) ?_
  refine B1 rfl ?_
  refine A4 (A3 (A2 ?_))
  refine A5 rfl ?_
  refine A1 rfl (F7 rfl (A0 rfl) B4) ?_
  refine A4 ?_
  refine C0 (A0 rfl) ?_ ?_
  ·intro h25
   have k25 := of_decide_eq_true h25; try simp only [A6] at k25
   refine A3 (A2 ?_)
   refine A1 rfl (A7 rfl B4) ?_
   refine A4 ?_
   refine B8 ?_
   exact E4 rfl (B7 rfl (by exact congrArg AV.int (by simp only [szR, sizeL, A6, decide_eq_true_eq, decide_eq_false_iff_not] at *; omega)))
  intro h25
  have k25 := of_decide_eq_false h25; try simp only [A6] at k25
  refine C1 (A2 ?_)
  refine A5 rfl ?_
  refine A1 rfl (E9 rfl (A0 rfl) B4 (by first | omega | (simp only [D3, B0, szR] at *; omega))) ?_
  refine B1 rfl ?_
  refine A4 ?_
  refine J5 i b (i + 1) ((szR (TVer.size x) b)) ?_ ?_ (G6 ⟨rfl, rfl, rfl, trivial⟩)
  ·exact ⟨by omega, by have e1 := j4 TVer.size l i x hx; simp only [szR, decide_eq_false_iff_not] at *; omega, by omega⟩
  omega
 intro h15
 have k15 := of_decide_eq_false h15; try simp only [A6] at k15
 have hge : l.length ≤ i := by omega
 have e3 : ((l.take i).map TVer.size).sum = (l.map TVer.size).sum := by rw [List.take_of_length_le hge]
 refine F1 ?_
 refine A3 (A2 ?_)
 refine A5 rfl ?_
 refine B1 rfl ?_
 refine A4 ?_
 refine B8 ?_
 exact E4 rfl (B7 rfl (by exact congrArg AV.int (by simp only [szR, sizeL, A6, decide_eq_true_eq, decide_eq_false_iff_not] at *; omega)))
theorem Aj6 (l : List TVer) (hs : sizeL TVer.size l ≤ 1048576) : FSpec Tryz.prog 133 [AV.list 3 (l.map TVer.cs)] (AV.list 3 (l.map TVer.cs)) := by
 have hsl : l.length ≤ 1048576 := Nat.le_trans L4 hs
 refine D0 Tryz.func133 rfl Tryz.ntmps133 rfl ?_
 refine A3 (A2 ?_)
 refine A1 rfl (A7 rfl (c0 (sz := 3))) ?_
 refine A4 (A3 (A2 ?_))
 refine A5 rfl ?_
 refine A1 rfl (E7 rfl P8 (A0 rfl)) ?_
 refine W1 (by' := 32) rfl rfl rfl rfl H4 Tryz.type127 rfl rfl rfl rfl rfl rfl (A0 rfl) (A0 rfl) (by simp only [A6]; omega) (by simp only [A6]; omega) ?_
 intro v7
 refine B1 rfl ?_
 refine A4 (A3 (A3 (A2 ?_)))
 refine A1 rfl (A7 rfl B4) ?_
 refine A4 (C3 ?_)
 refine G4 [(0, _), (2, _), (3, _)] _ (fun (i : Nat) => i ≤ l.length) (fun (i : Nat) => [.arr v7 127 3 ((l.take i).map TVer.cs ++ List.replicate (l.length - i) [AV.int 0, AV.str [], AV.bool false])]) (fun (i : Nat) => [(4, AV.int i)]) (fun (i : Nat) => l.length - i) (0) ?_ (J9 (by simp only [A6]; rfl) ⟨rfl, rfl, rfl, rfl, trivial⟩) ?_
 ·exact Nat.zero_le _
 intro i hinv
 refine A3 (A3 (A2 ?_))
 refine A5 rfl ?_
 refine A5 rfl ?_
 refine A1 rfl (E7 rfl P8 (A0 rfl)) ?_
 refine A1 rfl (F7 rfl (A0 rfl) (A0 rfl)) ?_
 refine A4 ?_
 refine C0 (A0 rfl) ?_ ?_
 ·intro h11
  have k11 := of_decide_eq_true h11; try simp only [A6] at k11
  have hlt : i < l.length := by omega
  obtain ⟨x, hx⟩ := get_some hlt
  have hsx : TVer.size x ≤ 1048576 := Nat.le_trans (Q1 hx) hs
  refine C1 (A3 (C3 (A2 ?_)))
  refine A5 rfl ?_
  refine A5 rfl ?_
  refine A5 rfl ?_
  refine A5 rfl ?_
  refine A1 rfl (N5 rfl P8 X7 (A0 rfl) (A0 rfl) (by omega) (by simp only [Int.toNat_natCast, List.getElem?_map, hx, Option.map_some]; try rfl)) ?_
  refine A1 rfl (H0 rfl (A0 rfl) Tryz.isAgg217 X7) ?_
  refine A1 rfl (D8 rfl Tryz.call183 rfl (AP3 _ (by first | assumption | omega | (simp only [] at *; omega))) (A8 (A0 rfl) C8)) ?_
  refine A1 rfl (K9 0 rfl H4 J1 (A0 rfl) rfl (A0 rfl) (by omega) (by rw [Q0 hinv]; omega)) ?_
  refine R8 0 rfl rfl rfl (A0 rfl) (A0 rfl) (I7 _) rfl J1 rfl (by rw [Q0 hinv]; omega) ?_
  refine A4 (A2 ?_)
  refine A5 rfl ?_
  refine A1 rfl (E9 rfl (A0 rfl) B4 (by first | omega | (simp only [D3, B0, szR] at *; omega))) ?_
  refine B1 rfl ?_
  refine A4 ?_
  refine H6 i (i + 1) ?_ ?_ (J9 (by exact congrArg (fun z => [Own.arr v7 127 3 z]) (V4 hx)) ⟨rfl, rfl, rfl, rfl, trivial⟩)
  ·omega
  omega
 intro h11
 have k11 := of_decide_eq_false h11; try simp only [A6] at k11
 have hge : l.length ≤ i := by omega
 rw [V5 hge]
 refine F1 ?_
 refine A3 (A2 ?_)
 refine A5 rfl ?_
 refine B1 rfl ?_
 refine A4 ?_
 refine B8 ?_
 refine c9 0 2 rfl rfl ?_
 exact E4 rfl (B7 rfl (by first | rfl | (refine congrArg AV.bool ?_; simp_all; done)))
theorem Aj7 (a b : List TVer) : FSpec Tryz.prog 146 [AV.list 3 (a.map TVer.cs), AV.list 3 (b.map TVer.cs)] (AV.bool (decide (a = b))) := by
 refine D0 Tryz.func146 rfl Tryz.ntmps146 rfl ?_
 refine M6 (t := 0) rfl fun hl => ?_
 try simp only [A6] at hl
 refine A3 (A2 ?_)
 refine A1 rfl (A7 rfl E2) ?_
 refine A4 (A3 (A3 (A2 ?_)))
 refine A5 rfl ?_
 refine A1 rfl (E7 rfl H4 (A0 rfl)) ?_
 refine A5 rfl ?_
 refine A1 rfl (E7 rfl H4 (A0 rfl)) ?_
 refine A1 rfl (S2 rfl (A0 rfl) (A0 rfl)) ?_
 refine A4 ?_
 refine C0 (A0 rfl) ?_ ?_
 ·intro h10
  have k10 := N8 h10; try simp only [A6] at k10
  have hab : a ≠ b := by intro hc; subst hc; exact k10 rfl
  refine A3 (A2 ?_)
  refine A1 rfl (A7 rfl E2) ?_
  refine A4 ?_
  refine B8 ?_
  exact E4 rfl (B7 rfl (by exact congrArg AV.bool (by simp [hab])))
 intro h10
 have k10 := J4 h10; try simp only [A6] at k10
 have heq : a.length = b.length := by omega
 refine C1 (A3 (A3 (A2 ?_)))
 refine A1 rfl (A7 rfl B4) ?_
 refine A4 (C3 ?_)
 refine G4 [(0, _), (1, _)] _ (fun (i : Nat) => i ≤ a.length ∧ a.take i = b.take i) (fun (i : Nat) => []) (fun (i : Nat) => [(5, AV.int i)]) (fun (i : Nat) => a.length - i) (0) ?_ (G6 ⟨rfl, rfl, rfl, trivial⟩) ?_
 ·exact ⟨Nat.zero_le _, rfl⟩
 intro i hinv
 refine A3 (A3 (A2 ?_))
 refine A5 rfl ?_
 refine A5 rfl ?_
 refine A1 rfl (E7 rfl H4 (A0 rfl)) ?_
 refine A1 rfl (F7 rfl (A0 rfl) (A0 rfl)) ?_
 refine A4 ?_
 refine C0 (A0 rfl) ?_ ?_
 ·intro h14
  have k14 := of_decide_eq_true h14; try simp only [A6] at k14
  have hlt : i < a.length := by omega
  obtain ⟨x, hx⟩ := get_some hlt
  obtain ⟨y, hy⟩ := get_some (show i < b.length by omega)
  refine C1 (A3 (C3 (A3 ?_)))
  refine H7 (by kernel_rfl) (by kernel_rfl) rfl ?_
  refine B3 rfl rfl (C4 rfl (A0 rfl)) ?_
  refine B3 rfl rfl (C4 rfl (A0 rfl)) ?_
  refine B3 rfl rfl (N5 rfl H4 J1 (A0 rfl) (A0 rfl) (by omega) (by simp only [Int.toNat_natCast, List.getElem?_map, hx, Option.map_some]; try rfl)) ?_
  refine B3 rfl rfl (H0 rfl (A0 rfl) W0 J1) ?_
  refine B3 rfl rfl (C4 rfl (A0 rfl)) ?_
  refine B3 rfl rfl (C4 rfl (A0 rfl)) ?_
  refine B3 rfl rfl (N5 rfl H4 J1 (A0 rfl) (A0 rfl) (by omega) (by simp only [Int.toNat_natCast, List.getElem?_map, hy, Option.map_some]; try rfl)) ?_
  refine B3 rfl rfl (H0 rfl (A0 rfl) W0 J1) ?_
  refine B3 rfl rfl (D8 rfl Tryz.call191 rfl (Ar1 _ _) (A8 (A0 rfl) (A8 (A0 rfl) C8))) ?_
  refine B3 rfl rfl (J3 rfl (A0 rfl)) ?_
  refine O4 ?_
  refine C0 (A0 rfl) ?_ ?_
  ·intro h26
   have hab : a ≠ b := by intro hc; subst hc; rw [hx] at hy; injection hy with hy; subst hy; simp at h26
   refine A3 (A2 ?_)
   refine A1 rfl (A7 rfl E2) ?_
   refine A4 ?_
   refine B8 ?_
   exact E4 rfl (B7 rfl (by exact congrArg AV.bool (by simp [hab])))
  intro h26
  refine C1 (A2 ?_)
  refine A5 rfl ?_
  refine A1 rfl (E9 rfl (A0 rfl) B4 (by first | omega | (simp only [D3, B0, szR] at *; omega))) ?_
  refine B1 rfl ?_
  refine A4 ?_
  refine H6 i (i + 1) ?_ ?_ (G6 ⟨rfl, rfl, rfl, trivial⟩)
  ·exact ⟨by omega, V7 hinv.2 hx (by rw [hy]; congr 1; simp_all)⟩
  omega
 intro h14
 have k14 := of_decide_eq_false h14; try simp only [A6] at k14
 have hge : a.length ≤ i := by omega
 have hab : a = b := Y2 heq hinv.2 hge
 refine F1 ?_
 refine A3 (A2 ?_)
 refine A1 rfl (A7 rfl E2) ?_
 refine A4 ?_
 refine B8 ?_
 exact E4 rfl (B7 rfl (by exact congrArg AV.bool (by simp [hab])))
theorem Aj8 (a : TCell) (left : Int) (hok : a.ok) (h0 : 0 ≤ left) (h1 : left ≤ 1048576) : FSpec Tryz.prog 86 [AV.agg a.cs, AV.int left] (AV.int (szR a.size left)) := by
 obtain ⟨oKey, oVers⟩ := hok
 refine D0 Tryz.func86 rfl Tryz.ntmps86 rfl ?_
 refine A3 (A2 ?_)
 refine I6 rfl rfl rfl rfl (A0 rfl) ?_
 intro b2
 refine A1 rfl (A7 rfl B4) ?_
 refine A4 (A3 (A2 ?_))
 refine A5 rfl ?_
 refine A1 rfl (B5 0 rfl T5 rfl D2 (A0 rfl) rfl) ?_
 refine A1 rfl (B2 0 rfl (A0 rfl) rfl E6 rfl) ?_
 refine A1 rfl (a8 rfl J0 (A0 rfl)) ?_
 refine A1 rfl (O8 rfl (A0 rfl) (A0 rfl) (by first | omega | (simp only [D3, B0, szR] at *; omega))) ?_
 refine B1 rfl ?_
 refine A4 (A3 (A3 (A2 ?_)))
 refine A5 rfl ?_
 refine A1 rfl (F7 rfl (A0 rfl) B4) ?_
 refine A4 ?_
 refine C0 (A0 rfl) ?_ ?_
 ·intro h11
  have k11 := of_decide_eq_true h11; try simp only [A6] at k11
  refine A3 (A2 ?_)
  refine A1 rfl (A7 rfl B4) ?_
  refine A4 ?_
  refine B8 ?_
  exact E4 rfl (B7 rfl (by exact congrArg AV.int (by simp only [szR, TCell.size, decide_eq_true_eq, decide_eq_false_iff_not] at *; omega)))
 intro h11
 have k11 := of_decide_eq_false h11; try simp only [A6] at k11
 refine C1 (A3 (A2 ?_))
 refine A1 rfl (B5 1 rfl T5 rfl Tryz.sizeOf132 (A0 rfl) rfl) ?_
 refine A1 rfl (B2 0 rfl (A0 rfl) rfl Tryz.isAgg132 rfl) ?_
 refine A5 rfl ?_
 refine A1 rfl (D8 rfl Tryz.call130 rfl (Aj5 _ _ (by first | assumption | trivial) (by first | omega | (simp only [D3, B0, szR] at *; omega)) (by first | omega | (simp only [D3, B0, szR] at *; omega))) (A8 (A0 rfl) (A8 (A0 rfl) C8))) ?_
 refine B1 rfl ?_
 refine A4 (A3 (A3 (A2 ?_)))
 refine A5 rfl ?_
 refine A1 rfl (F7 rfl (A0 rfl) B4) ?_
 refine A4 ?_
 refine C0 (A0 rfl) ?_ ?_
 ·intro h17
  have k17 := of_decide_eq_true h17; try simp only [A6] at k17
  refine A3 (A2 ?_)
  refine A1 rfl (A7 rfl B4) ?_
  refine A4 ?_
  refine B8 ?_
  exact E4 rfl (B7 rfl (by exact congrArg AV.int (by simp only [szR, TCell.size, decide_eq_true_eq, decide_eq_false_iff_not] at *; omega)))
 intro h17
 have k17 := of_decide_eq_false h17; try simp only [A6] at k17
 refine C1 (A3 (A2 ?_))
 refine A5 rfl ?_
 refine B1 rfl ?_
 refine A4 ?_
 refine B8 ?_
 exact E4 rfl (B7 rfl (by exact congrArg AV.int (by simp only [szR, TCell.size, decide_eq_true_eq, decide_eq_false_iff_not] at *; omega)))
theorem Aj9 (a : TCell) (hs : a.size ≤ 1048576) : FSpec Tryz.prog 88 [AV.agg a.cs] (AV.agg a.cs) := by
 unfold TCell.size at hs
 refine D0 Tryz.func88 rfl Tryz.ntmps88 rfl ?_
 refine A3 (A2 ?_)
 refine I6 rfl rfl rfl rfl (A0 rfl) ?_
 intro b1
 refine I2 rfl rfl rfl rfl Tryz.zeroValue125 rfl ?_
 intro b2
 refine A4 (A3 (A2 ?_))
 refine I2 rfl rfl rfl rfl Tryz.zeroValue125 rfl ?_
 intro b3
 refine A4 (A3 (A2 ?_))
 refine A1 rfl (B5 0 rfl T5 rfl D2 (A0 rfl) rfl) ?_
 refine A1 rfl (B2 2 rfl (A0 rfl) rfl E6 rfl) ?_
 refine A1 rfl (B5 0 rfl F9 rfl D2 (A0 rfl) rfl) ?_
 refine K2 0 rfl rfl rfl (A0 rfl) (A0 rfl) (S5 _) rfl D2 rfl ?_
 refine A4 (A3 (A2 ?_))
 refine A1 rfl (B5 1 rfl T5 rfl Tryz.sizeOf132 (A0 rfl) rfl) ?_
 refine A1 rfl (B2 2 rfl (A0 rfl) rfl Tryz.isAgg132 rfl) ?_
 refine A1 rfl (D8 rfl Tryz.call133 rfl (Aj6 _ (by first | assumption | omega)) (A8 (A0 rfl) C8)) ?_
 refine A1 rfl (B5 1 rfl F9 rfl L2 (A0 rfl) rfl) ?_
 refine K2 0 rfl rfl rfl (A0 rfl) (A0 rfl) (c4 _ _) rfl L2 rfl ?_
 refine A4 (A3 (A2 ?_))
 refine A1 rfl (L5 0 rfl (A0 rfl) rfl O0 F2 rfl) ?_
 refine G9 1 rfl rfl rfl (A0 rfl) (A0 rfl) (I7 _) rfl F2 rfl ?_
 refine A4 ?_
 refine B8 ?_
 exact E4 rfl (S6 (ys := _) 1 rfl rfl O0 F2 rfl)
theorem Ak0 (a b : TCell) : FSpec Tryz.prog 95 [AV.agg a.cs, AV.agg b.cs] (AV.bool (decide (a = b))) := by
 refine D0 Tryz.func95 rfl Tryz.ntmps95 rfl ?_
 refine A3 (A2 ?_)
 refine I6 rfl rfl rfl rfl (A0 rfl) ?_
 intro b2
 refine I6 rfl rfl rfl rfl (A0 rfl) ?_
 intro b3
 refine A1 rfl (A7 rfl E2) ?_
 refine A4 (A3 (A3 (A2 ?_)))
 refine A1 rfl (B5 0 rfl F9 rfl D2 (A0 rfl) rfl) ?_
 refine A1 rfl (B2 1 rfl (A0 rfl) rfl E6 rfl) ?_
 refine A1 rfl (B5 0 rfl F9 rfl D2 (A0 rfl) rfl) ?_
 refine A1 rfl (B2 0 rfl (A0 rfl) rfl E6 rfl) ?_
 refine A1 rfl (a7 rfl (A0 rfl) (A0 rfl)) ?_
 refine A4 ?_
 refine C0 (A0 rfl) ?_ ?_
 ·intro h9
  refine A3 (A2 ?_)
  refine A1 rfl (A7 rfl E2) ?_
  refine A4 ?_
  refine B8 ?_
  exact E4 rfl (B7 rfl (by exact congrArg AV.bool (by cases a; cases b; simp_all)))
 intro h9
 refine C1 (A3 (A3 (A2 ?_)))
 refine A1 rfl (B5 1 rfl F9 rfl L2 (A0 rfl) rfl) ?_
 refine A1 rfl (B2 1 rfl (A0 rfl) rfl O1 rfl) ?_
 refine A1 rfl (B5 1 rfl F9 rfl L2 (A0 rfl) rfl) ?_
 refine A1 rfl (B2 0 rfl (A0 rfl) rfl O1 rfl) ?_
 refine A1 rfl (D8 rfl Tryz.call146 rfl (Aj7 _ _) (A8 (A0 rfl) (A8 (A0 rfl) C8))) ?_
 refine A1 rfl (J3 rfl (A0 rfl)) ?_
 refine A4 ?_
 refine C0 (A0 rfl) ?_ ?_
 ·intro h15
  refine A3 (A2 ?_)
  refine A1 rfl (A7 rfl E2) ?_
  refine A4 ?_
  refine B8 ?_
  exact E4 rfl (B7 rfl (by exact congrArg AV.bool (by cases a; cases b; simp_all)))
 intro h15
 refine C1 (A3 (A2 ?_))
 refine A1 rfl (A7 rfl E2) ?_
 refine A4 ?_
 refine B8 ?_
 exact E4 rfl (B7 rfl (by exact congrArg AV.bool (by cases a; cases b; simp_all)))
theorem Ak1 (a : THeld) (left : Int) (hok : a.ok) (h0 : 0 ≤ left) (h1 : left ≤ 1048576) : FSpec Tryz.prog 87 [AV.agg a.cs, AV.int left] (AV.int (szR a.size left)) := by
 obtain ⟨oReads, oWrites⟩ := hok
 refine D0 Tryz.func87 rfl Tryz.ntmps87 rfl ?_
 refine A3 (A2 ?_)
 refine I6 rfl rfl rfl rfl (A0 rfl) ?_
 intro b2
 refine A1 rfl (A7 rfl B4) ?_
 refine A4 (A3 (A2 ?_))
 refine A1 rfl (B5 3 rfl N7 rfl L0 (A0 rfl) rfl) ?_
 refine A1 rfl (B2 0 rfl (A0 rfl) rfl N4 rfl) ?_
 refine A5 rfl ?_
 refine A1 rfl (D8 rfl Tryz.call131 rfl (AT2 _ _ (by first | assumption | trivial) (by first | omega | (simp only [D3, B0, szR] at *; omega)) (by first | omega | (simp only [D3, B0, szR] at *; omega))) (A8 (A0 rfl) (A8 (A0 rfl) C8))) ?_
 refine B1 rfl ?_
 refine A4 (A3 (A3 (A2 ?_)))
 refine A5 rfl ?_
 refine A1 rfl (F7 rfl (A0 rfl) B4) ?_
 refine A4 ?_
 refine C0 (A0 rfl) ?_ ?_
 ·intro h10
  have k10 := of_decide_eq_true h10; try simp only [A6] at k10
  refine A3 (A2 ?_)
  refine A1 rfl (A7 rfl B4) ?_
  refine A4 ?_
  refine B8 ?_
  exact E4 rfl (B7 rfl (by exact congrArg AV.int (by simp only [szR, THeld.size, decide_eq_true_eq, decide_eq_false_iff_not] at *; omega)))
 intro h10
 have k10 := of_decide_eq_false h10; try simp only [A6] at k10
 refine C1 (A3 (A2 ?_))
 refine A1 rfl (B5 4 rfl N7 rfl Tryz.sizeOf136 (A0 rfl) rfl) ?_
 refine A1 rfl (B2 0 rfl (A0 rfl) rfl Tryz.isAgg136 rfl) ?_
 refine A5 rfl ?_
 refine A1 rfl (D8 rfl Tryz.call132 rfl (AY6 _ _ (by first | assumption | trivial) (by first | omega | (simp only [D3, B0, szR] at *; omega)) (by first | omega | (simp only [D3, B0, szR] at *; omega))) (A8 (A0 rfl) (A8 (A0 rfl) C8))) ?_
 refine B1 rfl ?_
 refine A4 (A3 (A3 (A2 ?_)))
 refine A5 rfl ?_
 refine A1 rfl (F7 rfl (A0 rfl) B4) ?_
 refine A4 ?_
 refine C0 (A0 rfl) ?_ ?_
 ·intro h16
  have k16 := of_decide_eq_true h16; try simp only [A6] at k16
  refine A3 (A2 ?_)
  refine A1 rfl (A7 rfl B4) ?_
  refine A4 ?_
  refine B8 ?_
  exact E4 rfl (B7 rfl (by exact congrArg AV.int (by simp only [szR, THeld.size, decide_eq_true_eq, decide_eq_false_iff_not] at *; omega)))
 intro h16
 have k16 := of_decide_eq_false h16; try simp only [A6] at k16
 refine C1 (A3 (A2 ?_))
 refine A5 rfl ?_
 refine B1 rfl ?_
 refine A4 ?_
 refine B8 ?_
 exact E4 rfl (B7 rfl (by exact congrArg AV.int (by simp only [szR, THeld.size, decide_eq_true_eq, decide_eq_false_iff_not] at *; omega)))
theorem Ak2 (a : THeld) (hs : a.size ≤ 1048576) : FSpec Tryz.prog 89 [AV.agg a.cs] (AV.agg a.cs) := by
 unfold THeld.size at hs
 refine D0 Tryz.func89 rfl Tryz.ntmps89 rfl ?_
 refine A3 (A2 ?_)
 refine I6 rfl rfl rfl rfl (A0 rfl) ?_
 intro b1
 refine I2 rfl rfl rfl rfl Tryz.zeroValue141 rfl ?_
 intro b2
 refine A4 (A3 (A2 ?_))
 refine I2 rfl rfl rfl rfl Tryz.zeroValue141 rfl ?_
 intro b3
 refine A4 (A3 (A2 ?_))
 refine A1 rfl (B5 0 rfl N7 rfl B9 (A0 rfl) rfl) ?_
 refine A1 rfl (B2 2 rfl (A0 rfl) rfl D1 rfl) ?_
 refine A1 rfl (B5 0 rfl E1 rfl B9 (A0 rfl) rfl) ?_
 refine K2 0 rfl rfl rfl (A0 rfl) (A0 rfl) (P0 _ _) rfl B9 rfl ?_
 refine A4 (A3 (A2 ?_))
 refine A1 rfl (B5 1 rfl N7 rfl B9 (A0 rfl) rfl) ?_
 refine A1 rfl (B2 2 rfl (A0 rfl) rfl D1 rfl) ?_
 refine A1 rfl (B5 1 rfl E1 rfl B9 (A0 rfl) rfl) ?_
 refine K2 0 rfl rfl rfl (A0 rfl) (A0 rfl) (P0 _ _) rfl B9 rfl ?_
 refine A4 (A3 (A2 ?_))
 refine A1 rfl (B5 2 rfl N7 rfl B9 (A0 rfl) rfl) ?_
 refine A1 rfl (B2 2 rfl (A0 rfl) rfl D1 rfl) ?_
 refine A1 rfl (B5 2 rfl E1 rfl B9 (A0 rfl) rfl) ?_
 refine K2 0 rfl rfl rfl (A0 rfl) (A0 rfl) (P0 _ _) rfl B9 rfl ?_
 refine A4 (A3 (A2 ?_))
 refine A1 rfl (B5 3 rfl N7 rfl L0 (A0 rfl) rfl) ?_
 refine A1 rfl (B2 2 rfl (A0 rfl) rfl N4 rfl) ?_
 refine A1 rfl (D8 rfl Tryz.call134 rfl (AT3 _ (by first | assumption | omega)) (A8 (A0 rfl) C8)) ?_
 refine A1 rfl (B5 3 rfl E1 rfl L0 (A0 rfl) rfl) ?_
 refine K2 0 rfl rfl rfl (A0 rfl) (A0 rfl) (c4 _ _) rfl L0 rfl ?_
 refine A4 (A3 (A2 ?_))
 refine A1 rfl (B5 4 rfl N7 rfl Tryz.sizeOf136 (A0 rfl) rfl) ?_
 refine A1 rfl (B2 2 rfl (A0 rfl) rfl Tryz.isAgg136 rfl) ?_
 refine A1 rfl (D8 rfl Tryz.call135 rfl (AY7 _ (by first | assumption | omega)) (A8 (A0 rfl) C8)) ?_
 refine A1 rfl (B5 4 rfl E1 rfl J6 (A0 rfl) rfl) ?_
 refine K2 0 rfl rfl rfl (A0 rfl) (A0 rfl) (c4 _ _) rfl J6 rfl ?_
 refine A4 (A3 (A2 ?_))
 refine A1 rfl (L5 0 rfl (A0 rfl) rfl K5 E8 rfl) ?_
 refine G9 1 rfl rfl rfl (A0 rfl) (A0 rfl) (I7 _) rfl E8 rfl ?_
 refine A4 ?_
 refine B8 ?_
 exact E4 rfl (S6 (ys := _) 1 rfl rfl K5 E8 rfl)
theorem Ak3 (a b : THeld) : FSpec Tryz.prog 96 [AV.agg a.cs, AV.agg b.cs] (AV.bool (decide (a = b))) := by
 refine D0 Tryz.func96 rfl Tryz.ntmps96 rfl ?_
 refine A3 (A2 ?_)
 refine I6 rfl rfl rfl rfl (A0 rfl) ?_
 intro b2
 refine I6 rfl rfl rfl rfl (A0 rfl) ?_
 intro b3
 refine A1 rfl (A7 rfl E2) ?_
 refine A4 (A3 (A3 (A2 ?_)))
 refine A1 rfl (B5 0 rfl E1 rfl B9 (A0 rfl) rfl) ?_
 refine A1 rfl (B2 1 rfl (A0 rfl) rfl D1 rfl) ?_
 refine A1 rfl (B5 0 rfl E1 rfl B9 (A0 rfl) rfl) ?_
 refine A1 rfl (B2 0 rfl (A0 rfl) rfl D1 rfl) ?_
 refine A1 rfl (S2 rfl (A0 rfl) (A0 rfl)) ?_
 refine A4 ?_
 refine C0 (A0 rfl) ?_ ?_
 ·intro h9
  have k9 := N8 h9; try simp only [A6] at k9
  refine A3 (A2 ?_)
  refine A1 rfl (A7 rfl E2) ?_
  refine A4 ?_
  refine B8 ?_
  exact E4 rfl (B7 rfl (by exact congrArg AV.bool (by cases a; cases b; simp_all)))
 intro h9
 have k9 := J4 h9; try simp only [A6] at k9
 refine C1 (A3 (A3 (A2 ?_)))
 refine A1 rfl (B5 1 rfl E1 rfl B9 (A0 rfl) rfl) ?_
 refine A1 rfl (B2 1 rfl (A0 rfl) rfl D1 rfl) ?_
 refine A1 rfl (B5 1 rfl E1 rfl B9 (A0 rfl) rfl) ?_
 refine A1 rfl (B2 0 rfl (A0 rfl) rfl D1 rfl) ?_
 refine A1 rfl (S2 rfl (A0 rfl) (A0 rfl)) ?_
 refine A4 ?_
 refine C0 (A0 rfl) ?_ ?_
 ·intro h14
  have k14 := N8 h14; try simp only [A6] at k14
  refine A3 (A2 ?_)
  refine A1 rfl (A7 rfl E2) ?_
  refine A4 ?_
  refine B8 ?_
  exact E4 rfl (B7 rfl (by exact congrArg AV.bool (by cases a; cases b; simp_all)))
 intro h14
 have k14 := J4 h14; try simp only [A6] at k14
 refine C1 (A3 (A3 (A2 ?_)))
 refine A1 rfl (B5 2 rfl E1 rfl B9 (A0 rfl) rfl) ?_
 refine A1 rfl (B2 1 rfl (A0 rfl) rfl D1 rfl) ?_
 refine A1 rfl (B5 2 rfl E1 rfl B9 (A0 rfl) rfl) ?_
 refine A1 rfl (B2 0 rfl (A0 rfl) rfl D1 rfl) ?_
 refine A1 rfl (S2 rfl (A0 rfl) (A0 rfl)) ?_
 refine A4 ?_
 refine C0 (A0 rfl) ?_ ?_
 ·intro h19
  have k19 := N8 h19; try simp only [A6] at k19
  refine A3 (A2 ?_)
  refine A1 rfl (A7 rfl E2) ?_
  refine A4 ?_
  refine B8 ?_
  exact E4 rfl (B7 rfl (by exact congrArg AV.bool (by cases a; cases b; simp_all)))
 intro h19
 have k19 := J4 h19; try simp only [A6] at k19
 refine C1 (A3 (A3 (A2 ?_)))
 refine A1 rfl (B5 3 rfl E1 rfl L0 (A0 rfl) rfl) ?_
 refine A1 rfl (B2 1 rfl (A0 rfl) rfl N4 rfl) ?_
 refine A1 rfl (B5 3 rfl E1 rfl L0 (A0 rfl) rfl) ?_
 refine A1 rfl (B2 0 rfl (A0 rfl) rfl N4 rfl) ?_
 refine A1 rfl (D8 rfl Tryz.call147 rfl (AT4 _ _) (A8 (A0 rfl) (A8 (A0 rfl) C8))) ?_
 refine A1 rfl (J3 rfl (A0 rfl)) ?_
 refine A4 ?_
 refine C0 (A0 rfl) ?_ ?_
 ·intro h25
  refine A3 (A2 ?_)
  refine A1 rfl (A7 rfl E2) ?_
  refine A4 ?_
  refine B8 ?_
  exact E4 rfl (B7 rfl (by exact congrArg AV.bool (by cases a; cases b; simp_all)))
 intro h25
 refine C1 (A3 (A3 (A2 ?_)))
 refine A1 rfl (B5 4 rfl E1 rfl J6 (A0 rfl) rfl) ?_
 refine A1 rfl (B2 1 rfl (A0 rfl) rfl K6 rfl) ?_
 refine A1 rfl (B5 4 rfl E1 rfl J6 (A0 rfl) rfl) ?_
 refine A1 rfl (B2 0 rfl (A0 rfl) rfl K6 rfl) ?_
 refine A1 rfl (D8 rfl Tryz.call148 rfl (AY8 _ _) (A8 (A0 rfl) (A8 (A0 rfl) C8))) ?_
 refine A1 rfl (J3 rfl (A0 rfl)) ?_
 refine A4 ?_
 refine C0 (A0 rfl) ?_ ?_
 ·intro h31
  refine A3 (A2 ?_)
  refine A1 rfl (A7 rfl E2) ?_
  refine A4 ?_
  refine B8 ?_
  exact E4 rfl (B7 rfl (by exact congrArg AV.bool (by cases a; cases b; simp_all)))
 intro h31
 refine C1 (A3 (A2 ?_))
 refine A1 rfl (A7 rfl E2) ?_
 refine A4 ?_
 refine B8 ?_
 exact E4 rfl (B7 rfl (by exact congrArg AV.bool (by cases a; cases b; simp_all)))
theorem AJ9 (a : TTold) (hs : a.size ≤ 1048576) : FSpec Tryz.prog 90 [AV.agg a.cs] (AV.agg a.cs) := by
 unfold TTold.size at hs
 refine D0 Tryz.func90 rfl Tryz.ntmps90 rfl ?_
 refine A3 (A2 ?_)
 refine I6 rfl rfl rfl rfl (A0 rfl) ?_
 intro b1
 refine I2 rfl rfl rfl rfl Tryz.zeroValue144 rfl ?_
 intro b2
 refine A4 (A3 (A2 ?_))
 refine I2 rfl rfl rfl rfl Tryz.zeroValue144 rfl ?_
 intro b3
 refine A4 (A3 (A2 ?_))
 refine A1 rfl (B5 0 rfl Tryz.underlying146 rfl B9 (A0 rfl) rfl) ?_
 refine A1 rfl (B2 2 rfl (A0 rfl) rfl D1 rfl) ?_
 refine A1 rfl (B5 0 rfl H8 rfl B9 (A0 rfl) rfl) ?_
 refine K2 0 rfl rfl rfl (A0 rfl) (A0 rfl) (P0 _ _) rfl B9 rfl ?_
 refine A4 (A3 (A2 ?_))
 refine A1 rfl (B5 1 rfl Tryz.underlying146 rfl G3 (A0 rfl) rfl) ?_
 refine A1 rfl (B2 2 rfl (A0 rfl) rfl I9 rfl) ?_
 refine A1 rfl (B5 1 rfl H8 rfl G3 (A0 rfl) rfl) ?_
 refine K2 0 rfl rfl rfl (A0 rfl) (A0 rfl) (f7 _) rfl G3 rfl ?_
 refine A4 (A3 (A2 ?_))
 refine A1 rfl (B5 2 rfl Tryz.underlying146 rfl B9 (A0 rfl) rfl) ?_
 refine A1 rfl (B2 2 rfl (A0 rfl) rfl D1 rfl) ?_
 refine A1 rfl (B5 2 rfl H8 rfl B9 (A0 rfl) rfl) ?_
 refine K2 0 rfl rfl rfl (A0 rfl) (A0 rfl) (P0 _ _) rfl B9 rfl ?_
 refine A4 (A3 (A2 ?_))
 refine A1 rfl (L5 0 rfl (A0 rfl) rfl Z2 L3 rfl) ?_
 refine G9 1 rfl rfl rfl (A0 rfl) (A0 rfl) (I7 _) rfl L3 rfl ?_
 refine A4 ?_
 refine B8 ?_
 exact E4 rfl (S6 (ys := _) 1 rfl rfl Z2 L3 rfl)
theorem Ak4 (a b : TTold) : FSpec Tryz.prog 97 [AV.agg a.cs, AV.agg b.cs] (AV.bool (decide (a = b))) := by
 refine D0 Tryz.func97 rfl Tryz.ntmps97 rfl ?_
 refine A3 (A2 ?_)
 refine I6 rfl rfl rfl rfl (A0 rfl) ?_
 intro b2
 refine I6 rfl rfl rfl rfl (A0 rfl) ?_
 intro b3
 refine A1 rfl (A7 rfl E2) ?_
 refine A4 (A3 (A3 (A2 ?_)))
 refine A1 rfl (B5 0 rfl H8 rfl B9 (A0 rfl) rfl) ?_
 refine A1 rfl (B2 1 rfl (A0 rfl) rfl D1 rfl) ?_
 refine A1 rfl (B5 0 rfl H8 rfl B9 (A0 rfl) rfl) ?_
 refine A1 rfl (B2 0 rfl (A0 rfl) rfl D1 rfl) ?_
 refine A1 rfl (S2 rfl (A0 rfl) (A0 rfl)) ?_
 refine A4 ?_
 refine C0 (A0 rfl) ?_ ?_
 ·intro h9
  have k9 := N8 h9; try simp only [A6] at k9
  refine A3 (A2 ?_)
  refine A1 rfl (A7 rfl E2) ?_
  refine A4 ?_
  refine B8 ?_
  exact E4 rfl (B7 rfl (by exact congrArg AV.bool (by cases a; cases b; simp_all)))
 intro h9
 have k9 := J4 h9; try simp only [A6] at k9
 refine C1 (A3 (A3 (A2 ?_)))
 refine A1 rfl (B5 1 rfl H8 rfl G3 (A0 rfl) rfl) ?_
 refine A1 rfl (B2 1 rfl (A0 rfl) rfl I9 rfl) ?_
 refine A1 rfl (B5 1 rfl H8 rfl G3 (A0 rfl) rfl) ?_
 refine A1 rfl (B2 0 rfl (A0 rfl) rfl I9 rfl) ?_
 refine A1 rfl (o7 rfl O6 (A0 rfl) (A0 rfl)) ?_
 refine A4 ?_
 refine C0 (A0 rfl) ?_ ?_
 ·intro h14
  refine A3 (A2 ?_)
  refine A1 rfl (A7 rfl E2) ?_
  refine A4 ?_
  refine B8 ?_
  exact E4 rfl (B7 rfl (by exact congrArg AV.bool (by cases a; cases b; simp_all)))
 intro h14
 refine C1 (A3 (A3 (A2 ?_)))
 refine A1 rfl (B5 2 rfl H8 rfl B9 (A0 rfl) rfl) ?_
 refine A1 rfl (B2 1 rfl (A0 rfl) rfl D1 rfl) ?_
 refine A1 rfl (B5 2 rfl H8 rfl B9 (A0 rfl) rfl) ?_
 refine A1 rfl (B2 0 rfl (A0 rfl) rfl D1 rfl) ?_
 refine A1 rfl (S2 rfl (A0 rfl) (A0 rfl)) ?_
 refine A4 ?_
 refine C0 (A0 rfl) ?_ ?_
 ·intro h19
  have k19 := N8 h19; try simp only [A6] at k19
  refine A3 (A2 ?_)
  refine A1 rfl (A7 rfl E2) ?_
  refine A4 ?_
  refine B8 ?_
  exact E4 rfl (B7 rfl (by exact congrArg AV.bool (by cases a; cases b; simp_all)))
 intro h19
 have k19 := J4 h19; try simp only [A6] at k19
 refine C1 (A3 (A2 ?_))
 refine A1 rfl (A7 rfl E2) ?_
 refine A4 ?_
 refine B8 ?_
 exact E4 rfl (B7 rfl (by exact congrArg AV.bool (by cases a; cases b; simp_all)))
theorem Ae2 (l : List TCell) (left : Int) (hok : (∀ x ∈ l, x.ok)) (h0 : 0 ≤ left) (h1 : left ≤ 1048576) : FSpec Tryz.prog 42 [AV.list 2 (l.map TCell.cs), AV.int left] (AV.int (szR (sizeL TCell.size l) left)) := by
 refine D0 Tryz.func42 rfl Tryz.ntmps42 rfl ?_
 refine M6 (t := 0) rfl fun hl => ?_
 try simp only [A6] at hl
 refine A3 (A2 ?_)
 refine A1 rfl (A7 rfl B4) ?_
 refine A4 (A3 (A2 ?_))
 refine A5 rfl ?_
 refine A5 rfl ?_
 refine A1 rfl (E7 rfl Q5 (A0 rfl)) ?_
 refine A1 rfl (O8 rfl (A0 rfl) (A0 rfl) (by first | omega | (simp only [D3, B0, szR] at *; omega))) ?_
 refine B1 rfl ?_
 refine A4 (A3 (A3 (A2 ?_)))
 refine A5 rfl ?_
 refine A1 rfl (F7 rfl (A0 rfl) B4) ?_
 refine A4 ?_
 refine C0 (A0 rfl) ?_ ?_
 ·intro h11
  have k11 := of_decide_eq_true h11; try simp only [A6] at k11
  refine A3 (A2 ?_)
  refine A1 rfl (A7 rfl B4) ?_
  refine A4 ?_
  refine B8 ?_
  exact E4 rfl (B7 rfl (by exact congrArg AV.int (by simp only [szR, sizeL, A6, decide_eq_true_eq, decide_eq_false_iff_not] at *; omega)))
 intro h11
 have k11 := of_decide_eq_false h11; try simp only [A6] at k11
 refine C1 (A3 (A3 (A2 ?_)))
 refine A1 rfl (A7 rfl B4) ?_
 refine A4 (C3 ?_)
 refine J7 [(0, _)] _ (fun (i : Nat) (b : Int) => i ≤ l.length ∧ b = left - l.length - (((l.take i).map TCell.size).sum : Nat) ∧ 0 ≤ b) (fun (i : Nat) (b : Int) => []) (fun (i : Nat) (b : Int) => [(1, AV.int b), (5, AV.int i)]) (fun (i : Nat) (b : Int) => l.length - i) (0) (left - ((l.map fun x => TCell.cs x).length : Int)) ?_ (G6 ⟨rfl, rfl, rfl, trivial⟩) ?_
 ·exact ⟨Nat.zero_le _, by simp, by simp only [A6]; omega⟩
 intro i b hinv
 refine A3 (A3 (A2 ?_))
 refine A5 rfl ?_
 refine A5 rfl ?_
 refine A1 rfl (E7 rfl Q5 (A0 rfl)) ?_
 refine A1 rfl (F7 rfl (A0 rfl) (A0 rfl)) ?_
 refine A4 ?_
 refine C0 (A0 rfl) ?_ ?_
 ·intro h15
  have k15 := of_decide_eq_true h15; try simp only [A6] at k15
  have hlt : i < l.length := by omega
  obtain ⟨x, hx⟩ := get_some hlt
  have e2 := p5 TCell.size l i x hx
  have hokx := hok x (H5 hx)
  refine C1 (A3 (C3 (A3 (A2 ?_))))
  refine A5 rfl ?_
  refine A5 rfl ?_
  refine A1 rfl (N5 rfl Q5 X8 (A0 rfl) (A0 rfl) (by omega) (by simp only [Int.toNat_natCast, List.getElem?_map, hx, Option.map_some]; try rfl)) ?_
  refine A1 rfl (H0 rfl (A0 rfl) Tryz.isAgg134 X8) ?_
  refine A5 rfl ?_
  refine A1 rfl (D8 rfl Tryz.call86 rfl (Aj8 _ _ (by assumption) (by first | omega | (simp only [D3, B0, szR] at *; omega)) (by first | omega | (simp only [D3, B0, szR] at *; omega))) (A8 (A0 rfl) (A8 (A0 rfl) C8))) ?_
  refine B1 rfl ?_
  refine A4 (A3 (A2 ?_))
  refine A5 rfl ?_
  refine A1 rfl (F7 rfl (A0 rfl) B4) ?_
  refine A4 ?_
  refine C0 (A0 rfl) ?_ ?_
  ·intro h25
   have k25 := of_decide_eq_true h25; try simp only [A6] at k25
   refine A3 (A2 ?_)
   refine A1 rfl (A7 rfl B4) ?_
   refine A4 ?_
   refine B8 ?_
   exact E4 rfl (B7 rfl (by exact congrArg AV.int (by simp only [szR, sizeL, A6, decide_eq_true_eq, decide_eq_false_iff_not] at *; omega)))
  intro h25
  have k25 := of_decide_eq_false h25; try simp only [A6] at k25
  refine C1 (A2 ?_)
  refine A5 rfl ?_
  refine A1 rfl (E9 rfl (A0 rfl) B4 (by first | omega | (simp only [D3, B0, szR] at *; omega))) ?_
  refine B1 rfl ?_
  refine A4 ?_
  refine J5 i b (i + 1) ((szR (TCell.size x) b)) ?_ ?_ (G6 ⟨rfl, rfl, rfl, trivial⟩)
  ·exact ⟨by omega, by have e1 := j4 TCell.size l i x hx; simp only [szR, decide_eq_false_iff_not] at *; omega, by omega⟩
  omega
 intro h15
 have k15 := of_decide_eq_false h15; try simp only [A6] at k15
 have hge : l.length ≤ i := by omega
 have e3 : ((l.take i).map TCell.size).sum = (l.map TCell.size).sum := by rw [List.take_of_length_le hge]
 refine F1 ?_
 refine A3 (A2 ?_)
 refine A5 rfl ?_
 refine B1 rfl ?_
 refine A4 ?_
 refine B8 ?_
 exact E4 rfl (B7 rfl (by exact congrArg AV.int (by simp only [szR, sizeL, A6, decide_eq_true_eq, decide_eq_false_iff_not] at *; omega)))
theorem Ae3 (l : List TCell) (hs : sizeL TCell.size l ≤ 1048576) : FSpec Tryz.prog 47 [AV.list 2 (l.map TCell.cs)] (AV.list 2 (l.map TCell.cs)) := by
 have hsl : l.length ≤ 1048576 := Nat.le_trans L4 hs
 refine D0 Tryz.func47 rfl Tryz.ntmps47 rfl ?_
 refine A3 (A2 ?_)
 refine A1 rfl (A7 rfl (c0 (sz := 2))) ?_
 refine A4 (A3 (A2 ?_))
 refine A5 rfl ?_
 refine A1 rfl (E7 rfl Q5 (A0 rfl)) ?_
 refine W1 (by' := 40) rfl rfl rfl rfl F3 Tryz.type125 rfl rfl rfl rfl rfl rfl (A0 rfl) (A0 rfl) (by simp only [A6]; omega) (by simp only [A6]; omega) ?_
 intro v7
 refine B1 rfl ?_
 refine A4 (A3 (A3 (A2 ?_)))
 refine A1 rfl (A7 rfl B4) ?_
 refine A4 (C3 ?_)
 refine G4 [(0, _), (2, _), (3, _)] _ (fun (i : Nat) => i ≤ l.length) (fun (i : Nat) => [.arr v7 125 2 ((l.take i).map TCell.cs ++ List.replicate (l.length - i) [AV.str [], AV.nils])]) (fun (i : Nat) => [(4, AV.int i)]) (fun (i : Nat) => l.length - i) (0) ?_ (J9 (by simp only [A6]; rfl) ⟨rfl, rfl, rfl, rfl, trivial⟩) ?_
 ·exact Nat.zero_le _
 intro i hinv
 refine A3 (A3 (A2 ?_))
 refine A5 rfl ?_
 refine A5 rfl ?_
 refine A1 rfl (E7 rfl Q5 (A0 rfl)) ?_
 refine A1 rfl (F7 rfl (A0 rfl) (A0 rfl)) ?_
 refine A4 ?_
 refine C0 (A0 rfl) ?_ ?_
 ·intro h11
  have k11 := of_decide_eq_true h11; try simp only [A6] at k11
  have hlt : i < l.length := by omega
  obtain ⟨x, hx⟩ := get_some hlt
  have hsx : TCell.size x ≤ 1048576 := Nat.le_trans (Q1 hx) hs
  refine C1 (A3 (C3 (A2 ?_)))
  refine A5 rfl ?_
  refine A5 rfl ?_
  refine A5 rfl ?_
  refine A5 rfl ?_
  refine A1 rfl (N5 rfl Q5 X8 (A0 rfl) (A0 rfl) (by omega) (by simp only [Int.toNat_natCast, List.getElem?_map, hx, Option.map_some]; try rfl)) ?_
  refine A1 rfl (H0 rfl (A0 rfl) Tryz.isAgg134 X8) ?_
  refine A1 rfl (D8 rfl Tryz.call88 rfl (Aj9 _ (by first | assumption | omega | (simp only [] at *; omega))) (A8 (A0 rfl) C8)) ?_
  refine A1 rfl (K9 0 rfl F3 F2 (A0 rfl) rfl (A0 rfl) (by omega) (by rw [Q0 hinv]; omega)) ?_
  refine R8 0 rfl rfl rfl (A0 rfl) (A0 rfl) (I7 _) rfl F2 rfl (by rw [Q0 hinv]; omega) ?_
  refine A4 (A2 ?_)
  refine A5 rfl ?_
  refine A1 rfl (E9 rfl (A0 rfl) B4 (by first | omega | (simp only [D3, B0, szR] at *; omega))) ?_
  refine B1 rfl ?_
  refine A4 ?_
  refine H6 i (i + 1) ?_ ?_ (J9 (by exact congrArg (fun z => [Own.arr v7 125 2 z]) (V4 hx)) ⟨rfl, rfl, rfl, rfl, trivial⟩)
  ·omega
  omega
 intro h11
 have k11 := of_decide_eq_false h11; try simp only [A6] at k11
 have hge : l.length ≤ i := by omega
 rw [V5 hge]
 refine F1 ?_
 refine A3 (A2 ?_)
 refine A5 rfl ?_
 refine B1 rfl ?_
 refine A4 ?_
 refine B8 ?_
 refine c9 0 2 rfl rfl ?_
 exact E4 rfl (B7 rfl (by first | rfl | (refine congrArg AV.bool ?_; simp_all; done)))
theorem Ae4 (a b : List TCell) : FSpec Tryz.prog 55 [AV.list 2 (a.map TCell.cs), AV.list 2 (b.map TCell.cs)] (AV.bool (decide (a = b))) := by
 refine D0 Tryz.func55 rfl Tryz.ntmps55 rfl ?_
 refine M6 (t := 0) rfl fun hl => ?_
 try simp only [A6] at hl
 refine A3 (A2 ?_)
 refine A1 rfl (A7 rfl E2) ?_
 refine A4 (A3 (A3 (A2 ?_)))
 refine A5 rfl ?_
 refine A1 rfl (E7 rfl F3 (A0 rfl)) ?_
 refine A5 rfl ?_
 refine A1 rfl (E7 rfl F3 (A0 rfl)) ?_
 refine A1 rfl (S2 rfl (A0 rfl) (A0 rfl)) ?_
 refine A4 ?_
 refine C0 (A0 rfl) ?_ ?_
 ·intro h10
  have k10 := N8 h10; try simp only [A6] at k10
  have hab : a ≠ b := by intro hc; subst hc; exact k10 rfl
  refine A3 (A2 ?_)
  refine A1 rfl (A7 rfl E2) ?_
  refine A4 ?_
  refine B8 ?_
  exact E4 rfl (B7 rfl (by exact congrArg AV.bool (by simp [hab])))
 intro h10
 have k10 := J4 h10; try simp only [A6] at k10
 have heq : a.length = b.length := by omega
 refine C1 (A3 (A3 (A2 ?_)))
 refine A1 rfl (A7 rfl B4) ?_
 refine A4 (C3 ?_)
 refine G4 [(0, _), (1, _)] _ (fun (i : Nat) => i ≤ a.length ∧ a.take i = b.take i) (fun (i : Nat) => []) (fun (i : Nat) => [(5, AV.int i)]) (fun (i : Nat) => a.length - i) (0) ?_ (G6 ⟨rfl, rfl, rfl, trivial⟩) ?_
 ·exact ⟨Nat.zero_le _, rfl⟩
 intro i hinv
 refine A3 (A3 (A2 ?_))
 refine A5 rfl ?_
 refine A5 rfl ?_
 refine A1 rfl (E7 rfl F3 (A0 rfl)) ?_
 refine A1 rfl (F7 rfl (A0 rfl) (A0 rfl)) ?_
 refine A4 ?_
 refine C0 (A0 rfl) ?_ ?_
 ·intro h14
  have k14 := of_decide_eq_true h14; try simp only [A6] at k14
  have hlt : i < a.length := by omega
  obtain ⟨x, hx⟩ := get_some hlt
  obtain ⟨y, hy⟩ := get_some (show i < b.length by omega)
  refine C1 (A3 (C3 (A3 ?_)))
  refine H7 (by kernel_rfl) (by kernel_rfl) rfl ?_
  refine B3 rfl rfl (C4 rfl (A0 rfl)) ?_
  refine B3 rfl rfl (C4 rfl (A0 rfl)) ?_
  refine B3 rfl rfl (N5 rfl F3 F2 (A0 rfl) (A0 rfl) (by omega) (by simp only [Int.toNat_natCast, List.getElem?_map, hx, Option.map_some]; try rfl)) ?_
  refine B3 rfl rfl (H0 rfl (A0 rfl) O0 F2) ?_
  refine B3 rfl rfl (C4 rfl (A0 rfl)) ?_
  refine B3 rfl rfl (C4 rfl (A0 rfl)) ?_
  refine B3 rfl rfl (N5 rfl F3 F2 (A0 rfl) (A0 rfl) (by omega) (by simp only [Int.toNat_natCast, List.getElem?_map, hy, Option.map_some]; try rfl)) ?_
  refine B3 rfl rfl (H0 rfl (A0 rfl) O0 F2) ?_
  refine B3 rfl rfl (D8 rfl Tryz.call95 rfl (Ak0 _ _) (A8 (A0 rfl) (A8 (A0 rfl) C8))) ?_
  refine B3 rfl rfl (J3 rfl (A0 rfl)) ?_
  refine O4 ?_
  refine C0 (A0 rfl) ?_ ?_
  ·intro h26
   have hab : a ≠ b := by intro hc; subst hc; rw [hx] at hy; injection hy with hy; subst hy; simp at h26
   refine A3 (A2 ?_)
   refine A1 rfl (A7 rfl E2) ?_
   refine A4 ?_
   refine B8 ?_
   exact E4 rfl (B7 rfl (by exact congrArg AV.bool (by simp [hab])))
  intro h26
  refine C1 (A2 ?_)
  refine A5 rfl ?_
  refine A1 rfl (E9 rfl (A0 rfl) B4 (by first | omega | (simp only [D3, B0, szR] at *; omega))) ?_
  refine B1 rfl ?_
  refine A4 ?_
  refine H6 i (i + 1) ?_ ?_ (G6 ⟨rfl, rfl, rfl, trivial⟩)
  ·exact ⟨by omega, V7 hinv.2 hx (by rw [hy]; congr 1; simp_all)⟩
  omega
 intro h14
 have k14 := of_decide_eq_false h14; try simp only [A6] at k14
 have hge : a.length ≤ i := by omega
 have hab : a = b := Y2 heq hinv.2 hge
 refine F1 ?_
 refine A3 (A2 ?_)
 refine A1 rfl (A7 rfl E2) ?_
 refine A4 ?_
 refine B8 ?_
 exact E4 rfl (B7 rfl (by exact congrArg AV.bool (by simp [hab])))
theorem Ae5 (l : List THeld) (left : Int) (hok : (∀ x ∈ l, x.ok)) (h0 : 0 ≤ left) (h1 : left ≤ 1048576) : FSpec Tryz.prog 43 [AV.list 5 (l.map THeld.cs), AV.int left] (AV.int (szR (sizeL THeld.size l) left)) := by
 refine D0 Tryz.func43 rfl Tryz.ntmps43 rfl ?_
 refine M6 (t := 0) rfl fun hl => ?_
 try simp only [A6] at hl
 refine A3 (A2 ?_)
 refine A1 rfl (A7 rfl B4) ?_
 refine A4 (A3 (A2 ?_))
 refine A5 rfl ?_
 refine A5 rfl ?_
 refine A1 rfl (E7 rfl Q6 (A0 rfl)) ?_
 refine A1 rfl (O8 rfl (A0 rfl) (A0 rfl) (by first | omega | (simp only [D3, B0, szR] at *; omega))) ?_
 refine B1 rfl ?_
 refine A4 (A3 (A3 (A2 ?_)))
 refine A5 rfl ?_
 refine A1 rfl (F7 rfl (A0 rfl) B4) ?_
 refine A4 ?_
 refine C0 (A0 rfl) ?_ ?_
 ·intro h11
  have k11 := of_decide_eq_true h11; try simp only [A6] at k11
  refine A3 (A2 ?_)
  refine A1 rfl (A7 rfl B4) ?_
  refine A4 ?_
  refine B8 ?_
  exact E4 rfl (B7 rfl (by exact congrArg AV.int (by simp only [szR, sizeL, A6, decide_eq_true_eq, decide_eq_false_iff_not] at *; omega)))
 intro h11
 have k11 := of_decide_eq_false h11; try simp only [A6] at k11
 refine C1 (A3 (A3 (A2 ?_)))
 refine A1 rfl (A7 rfl B4) ?_
 refine A4 (C3 ?_)
 refine J7 [(0, _)] _ (fun (i : Nat) (b : Int) => i ≤ l.length ∧ b = left - l.length - (((l.take i).map THeld.size).sum : Nat) ∧ 0 ≤ b) (fun (i : Nat) (b : Int) => []) (fun (i : Nat) (b : Int) => [(1, AV.int b), (5, AV.int i)]) (fun (i : Nat) (b : Int) => l.length - i) (0) (left - ((l.map fun x => THeld.cs x).length : Int)) ?_ (G6 ⟨rfl, rfl, rfl, trivial⟩) ?_
 ·exact ⟨Nat.zero_le _, by simp, by simp only [A6]; omega⟩
 intro i b hinv
 refine A3 (A3 (A2 ?_))
 refine A5 rfl ?_
 refine A5 rfl ?_
 refine A1 rfl (E7 rfl Q6 (A0 rfl)) ?_
 refine A1 rfl (F7 rfl (A0 rfl) (A0 rfl)) ?_
 refine A4 ?_
 refine C0 (A0 rfl) ?_ ?_
 ·intro h15
  have k15 := of_decide_eq_true h15; try simp only [A6] at k15
  have hlt : i < l.length := by omega
  obtain ⟨x, hx⟩ := get_some hlt
  have e2 := p5 THeld.size l i x hx
  have hokx := hok x (H5 hx)
  refine C1 (A3 (C3 (A3 (A2 ?_))))
  refine A5 rfl ?_
  refine A5 rfl ?_
  refine A1 rfl (N5 rfl Q6 X9 (A0 rfl) (A0 rfl) (by omega) (by simp only [Int.toNat_natCast, List.getElem?_map, hx, Option.map_some]; try rfl)) ?_
  refine A1 rfl (H0 rfl (A0 rfl) Tryz.isAgg138 X9) ?_
  refine A5 rfl ?_
  refine A1 rfl (D8 rfl Tryz.call87 rfl (Ak1 _ _ (by assumption) (by first | omega | (simp only [D3, B0, szR] at *; omega)) (by first | omega | (simp only [D3, B0, szR] at *; omega))) (A8 (A0 rfl) (A8 (A0 rfl) C8))) ?_
  refine B1 rfl ?_
  refine A4 (A3 (A2 ?_))
  refine A5 rfl ?_
  refine A1 rfl (F7 rfl (A0 rfl) B4) ?_
  refine A4 ?_
  refine C0 (A0 rfl) ?_ ?_
  ·intro h25
   have k25 := of_decide_eq_true h25; try simp only [A6] at k25
   refine A3 (A2 ?_)
   refine A1 rfl (A7 rfl B4) ?_
   refine A4 ?_
   refine B8 ?_
   exact E4 rfl (B7 rfl (by exact congrArg AV.int (by simp only [szR, sizeL, A6, decide_eq_true_eq, decide_eq_false_iff_not] at *; omega)))
  intro h25
  have k25 := of_decide_eq_false h25; try simp only [A6] at k25
  refine C1 (A2 ?_)
  refine A5 rfl ?_
  refine A1 rfl (E9 rfl (A0 rfl) B4 (by first | omega | (simp only [D3, B0, szR] at *; omega))) ?_
  refine B1 rfl ?_
  refine A4 ?_
  refine J5 i b (i + 1) ((szR (THeld.size x) b)) ?_ ?_ (G6 ⟨rfl, rfl, rfl, trivial⟩)
  ·exact ⟨by omega, by have e1 := j4 THeld.size l i x hx; simp only [szR, decide_eq_false_iff_not] at *; omega, by omega⟩
  omega
 intro h15
 have k15 := of_decide_eq_false h15; try simp only [A6] at k15
 have hge : l.length ≤ i := by omega
 have e3 : ((l.take i).map THeld.size).sum = (l.map THeld.size).sum := by rw [List.take_of_length_le hge]
 refine F1 ?_
 refine A3 (A2 ?_)
 refine A5 rfl ?_
 refine B1 rfl ?_
 refine A4 ?_
 refine B8 ?_
 exact E4 rfl (B7 rfl (by exact congrArg AV.int (by simp only [szR, sizeL, A6, decide_eq_true_eq, decide_eq_false_iff_not] at *; omega)))
theorem Ae6 (l : List THeld) (hs : sizeL THeld.size l ≤ 1048576) : FSpec Tryz.prog 48 [AV.list 5 (l.map THeld.cs)] (AV.list 5 (l.map THeld.cs)) := by
 have hsl : l.length ≤ 1048576 := Nat.le_trans L4 hs
 refine D0 Tryz.func48 rfl Tryz.ntmps48 rfl ?_
 refine A3 (A2 ?_)
 refine A1 rfl (A7 rfl (c0 (sz := 5))) ?_
 refine A4 (A3 (A2 ?_))
 refine A5 rfl ?_
 refine A1 rfl (E7 rfl Q6 (A0 rfl)) ?_
 refine W1 (by' := 72) rfl rfl rfl rfl F5 Tryz.type141 rfl rfl rfl rfl rfl rfl (A0 rfl) (A0 rfl) (by simp only [A6]; omega) (by simp only [A6]; omega) ?_
 intro v7
 refine B1 rfl ?_
 refine A4 (A3 (A3 (A2 ?_)))
 refine A1 rfl (A7 rfl B4) ?_
 refine A4 (C3 ?_)
 refine G4 [(0, _), (2, _), (3, _)] _ (fun (i : Nat) => i ≤ l.length) (fun (i : Nat) => [.arr v7 141 5 ((l.take i).map THeld.cs ++ List.replicate (l.length - i) [AV.int 0, AV.int 0, AV.int 0, AV.nils, AV.nils])]) (fun (i : Nat) => [(4, AV.int i)]) (fun (i : Nat) => l.length - i) (0) ?_ (J9 (by simp only [A6]; rfl) ⟨rfl, rfl, rfl, rfl, trivial⟩) ?_
 ·exact Nat.zero_le _
 intro i hinv
 refine A3 (A3 (A2 ?_))
 refine A5 rfl ?_
 refine A5 rfl ?_
 refine A1 rfl (E7 rfl Q6 (A0 rfl)) ?_
 refine A1 rfl (F7 rfl (A0 rfl) (A0 rfl)) ?_
 refine A4 ?_
 refine C0 (A0 rfl) ?_ ?_
 ·intro h11
  have k11 := of_decide_eq_true h11; try simp only [A6] at k11
  have hlt : i < l.length := by omega
  obtain ⟨x, hx⟩ := get_some hlt
  have hsx : THeld.size x ≤ 1048576 := Nat.le_trans (Q1 hx) hs
  refine C1 (A3 (C3 (A2 ?_)))
  refine A5 rfl ?_
  refine A5 rfl ?_
  refine A5 rfl ?_
  refine A5 rfl ?_
  refine A1 rfl (N5 rfl Q6 X9 (A0 rfl) (A0 rfl) (by omega) (by simp only [Int.toNat_natCast, List.getElem?_map, hx, Option.map_some]; try rfl)) ?_
  refine A1 rfl (H0 rfl (A0 rfl) Tryz.isAgg138 X9) ?_
  refine A1 rfl (D8 rfl Tryz.call89 rfl (Ak2 _ (by first | assumption | omega | (simp only [] at *; omega))) (A8 (A0 rfl) C8)) ?_
  refine A1 rfl (K9 0 rfl F5 E8 (A0 rfl) rfl (A0 rfl) (by omega) (by rw [Q0 hinv]; omega)) ?_
  refine R8 0 rfl rfl rfl (A0 rfl) (A0 rfl) (I7 _) rfl E8 rfl (by rw [Q0 hinv]; omega) ?_
  refine A4 (A2 ?_)
  refine A5 rfl ?_
  refine A1 rfl (E9 rfl (A0 rfl) B4 (by first | omega | (simp only [D3, B0, szR] at *; omega))) ?_
  refine B1 rfl ?_
  refine A4 ?_
  refine H6 i (i + 1) ?_ ?_ (J9 (by exact congrArg (fun z => [Own.arr v7 141 5 z]) (V4 hx)) ⟨rfl, rfl, rfl, rfl, trivial⟩)
  ·omega
  omega
 intro h11
 have k11 := of_decide_eq_false h11; try simp only [A6] at k11
 have hge : l.length ≤ i := by omega
 rw [V5 hge]
 refine F1 ?_
 refine A3 (A2 ?_)
 refine A5 rfl ?_
 refine B1 rfl ?_
 refine A4 ?_
 refine B8 ?_
 refine c9 0 2 rfl rfl ?_
 exact E4 rfl (B7 rfl (by first | rfl | (refine congrArg AV.bool ?_; simp_all; done)))
theorem Ae7 (a b : List THeld) : FSpec Tryz.prog 56 [AV.list 5 (a.map THeld.cs), AV.list 5 (b.map THeld.cs)] (AV.bool (decide (a = b))) := by
 refine D0 Tryz.func56 rfl Tryz.ntmps56 rfl ?_
 refine M6 (t := 0) rfl fun hl => ?_
 try simp only [A6] at hl
 refine A3 (A2 ?_)
 refine A1 rfl (A7 rfl E2) ?_
 refine A4 (A3 (A3 (A2 ?_)))
 refine A5 rfl ?_
 refine A1 rfl (E7 rfl F5 (A0 rfl)) ?_
 refine A5 rfl ?_
 refine A1 rfl (E7 rfl F5 (A0 rfl)) ?_
 refine A1 rfl (S2 rfl (A0 rfl) (A0 rfl)) ?_
 refine A4 ?_
 refine C0 (A0 rfl) ?_ ?_
 ·intro h10
  have k10 := N8 h10; try simp only [A6] at k10
  have hab : a ≠ b := by intro hc; subst hc; exact k10 rfl
  refine A3 (A2 ?_)
  refine A1 rfl (A7 rfl E2) ?_
  refine A4 ?_
  refine B8 ?_
  exact E4 rfl (B7 rfl (by exact congrArg AV.bool (by simp [hab])))
 intro h10
 have k10 := J4 h10; try simp only [A6] at k10
 have heq : a.length = b.length := by omega
 refine C1 (A3 (A3 (A2 ?_)))
 refine A1 rfl (A7 rfl B4) ?_
 refine A4 (C3 ?_)
 refine G4 [(0, _), (1, _)] _ (fun (i : Nat) => i ≤ a.length ∧ a.take i = b.take i) (fun (i : Nat) => []) (fun (i : Nat) => [(5, AV.int i)]) (fun (i : Nat) => a.length - i) (0) ?_ (G6 ⟨rfl, rfl, rfl, trivial⟩) ?_
 ·exact ⟨Nat.zero_le _, rfl⟩
 intro i hinv
 refine A3 (A3 (A2 ?_))
 refine A5 rfl ?_
 refine A5 rfl ?_
 refine A1 rfl (E7 rfl F5 (A0 rfl)) ?_
 refine A1 rfl (F7 rfl (A0 rfl) (A0 rfl)) ?_
 refine A4 ?_
 refine C0 (A0 rfl) ?_ ?_
 ·intro h14
  have k14 := of_decide_eq_true h14; try simp only [A6] at k14
  have hlt : i < a.length := by omega
  obtain ⟨x, hx⟩ := get_some hlt
  obtain ⟨y, hy⟩ := get_some (show i < b.length by omega)
  refine C1 (A3 (C3 (A3 ?_)))
  refine H7 (by kernel_rfl) (by kernel_rfl) rfl ?_
  refine B3 rfl rfl (C4 rfl (A0 rfl)) ?_
  refine B3 rfl rfl (C4 rfl (A0 rfl)) ?_
  refine B3 rfl rfl (N5 rfl F5 E8 (A0 rfl) (A0 rfl) (by omega) (by simp only [Int.toNat_natCast, List.getElem?_map, hx, Option.map_some]; try rfl)) ?_
  refine B3 rfl rfl (H0 rfl (A0 rfl) K5 E8) ?_
  refine B3 rfl rfl (C4 rfl (A0 rfl)) ?_
  refine B3 rfl rfl (C4 rfl (A0 rfl)) ?_
  refine B3 rfl rfl (N5 rfl F5 E8 (A0 rfl) (A0 rfl) (by omega) (by simp only [Int.toNat_natCast, List.getElem?_map, hy, Option.map_some]; try rfl)) ?_
  refine B3 rfl rfl (H0 rfl (A0 rfl) K5 E8) ?_
  refine B3 rfl rfl (D8 rfl Tryz.call96 rfl (Ak3 _ _) (A8 (A0 rfl) (A8 (A0 rfl) C8))) ?_
  refine B3 rfl rfl (J3 rfl (A0 rfl)) ?_
  refine O4 ?_
  refine C0 (A0 rfl) ?_ ?_
  ·intro h26
   have hab : a ≠ b := by intro hc; subst hc; rw [hx] at hy; injection hy with hy; subst hy; simp at h26
   refine A3 (A2 ?_)
   refine A1 rfl (A7 rfl E2) ?_
   refine A4 ?_
   refine B8 ?_
   exact E4 rfl (B7 rfl (by exact congrArg AV.bool (by simp [hab])))
  intro h26
  refine C1 (A2 ?_)
  refine A5 rfl ?_
  refine A1 rfl (E9 rfl (A0 rfl) B4 (by first | omega | (simp only [D3, B0, szR] at *; omega))) ?_
  refine B1 rfl ?_
  refine A4 ?_
  refine H6 i (i + 1) ?_ ?_ (G6 ⟨rfl, rfl, rfl, trivial⟩)
  ·exact ⟨by omega, V7 hinv.2 hx (by rw [hy]; congr 1; simp_all)⟩
  omega
 intro h14
 have k14 := of_decide_eq_false h14; try simp only [A6] at k14
 have hge : a.length ≤ i := by omega
 have hab : a = b := Y2 heq hinv.2 hge
 refine F1 ?_
 refine A3 (A2 ?_)
 refine A1 rfl (A7 rfl E2) ?_
 refine A4 ?_
 refine B8 ?_
 exact E4 rfl (B7 rfl (by exact congrArg AV.bool (by simp [hab])))
theorem Ae8 (l : List TTold) (left : Int) (hok : True) (h0 : 0 ≤ left) (h1 : left ≤ 1048576) : FSpec Tryz.prog 44 [AV.list 3 (l.map TTold.cs), AV.int left] (AV.int (szR l.length left)) := by
 refine D0 Tryz.func44 rfl Tryz.ntmps44 rfl ?_
 refine M6 (t := 0) rfl fun hl => ?_
 try simp only [A6] at hl
 refine A3 (A2 ?_)
 refine A1 rfl (A7 rfl B4) ?_
 refine A4 (A3 (A2 ?_))
 refine A5 rfl ?_
 refine A5 rfl ?_
 refine A1 rfl (E7 rfl T1 (A0 rfl)) ?_
 refine A1 rfl (O8 rfl (A0 rfl) (A0 rfl) (by first | omega | (simp only [D3, B0, szR] at *; omega))) ?_
 refine B1 rfl ?_
 refine A4 (A3 (A3 (A2 ?_)))
 refine A5 rfl ?_
 refine A1 rfl (F7 rfl (A0 rfl) B4) ?_
 refine A4 ?_
 refine C0 (A0 rfl) ?_ ?_
 ·intro h10
  have k10 := of_decide_eq_true h10; try simp only [A6] at k10
  refine A3 (A2 ?_)
  refine A1 rfl (A7 rfl B4) ?_
  refine A4 ?_
  refine B8 ?_
  exact E4 rfl (B7 rfl (by exact congrArg AV.int (by simp only [szR, A6, decide_eq_true_eq, decide_eq_false_iff_not] at *; omega)))
 intro h10
 have k10 := of_decide_eq_false h10; try simp only [A6] at k10
 refine C1 (A3 (A2 ?_))
 refine A5 rfl ?_
 refine B1 rfl ?_
 refine A4 ?_
 refine B8 ?_
 exact E4 rfl (B7 rfl (by exact congrArg AV.int (by simp only [szR, A6, decide_eq_true_eq, decide_eq_false_iff_not] at *; omega)))
theorem Ae9 (l : List TTold) (hs : l.length ≤ 1048576) : FSpec Tryz.prog 49 [AV.list 3 (l.map TTold.cs)] (AV.list 3 (l.map TTold.cs)) := by
 have hsl : l.length ≤ 1048576 := hs
 refine D0 Tryz.func49 rfl Tryz.ntmps49 rfl ?_
 refine A3 (A2 ?_)
 refine A1 rfl (A7 rfl (c0 (sz := 3))) ?_
 refine A4 (A3 (A2 ?_))
 refine A5 rfl ?_
 refine A1 rfl (E7 rfl T1 (A0 rfl)) ?_
 refine W1 (by' := 24) rfl rfl rfl rfl J8 Tryz.type144 rfl rfl rfl rfl rfl rfl (A0 rfl) (A0 rfl) (by simp only [A6]; omega) (by simp only [A6]; omega) ?_
 intro v7
 refine B1 rfl ?_
 refine A4 (A3 (A3 (A2 ?_)))
 refine A1 rfl (A7 rfl B4) ?_
 refine A4 (C3 ?_)
 refine G4 [(0, _), (2, _), (3, _)] _ (fun (i : Nat) => i ≤ l.length) (fun (i : Nat) => [.arr v7 144 3 ((l.take i).map TTold.cs ++ List.replicate (l.length - i) [AV.int 0, AV.bool false, AV.int 0])]) (fun (i : Nat) => [(4, AV.int i)]) (fun (i : Nat) => l.length - i) (0) ?_ (J9 (by simp only [A6]; rfl) ⟨rfl, rfl, rfl, rfl, trivial⟩) ?_
 ·exact Nat.zero_le _
 intro i hinv
 refine A3 (A3 (A2 ?_))
 refine A5 rfl ?_
 refine A5 rfl ?_
 refine A1 rfl (E7 rfl T1 (A0 rfl)) ?_
 refine A1 rfl (F7 rfl (A0 rfl) (A0 rfl)) ?_
 refine A4 ?_
 refine C0 (A0 rfl) ?_ ?_
 ·intro h11
  have k11 := of_decide_eq_true h11; try simp only [A6] at k11
  have hlt : i < l.length := by omega
  obtain ⟨x, hx⟩ := get_some hlt
  have hsx : x.size ≤ 1048576 := Nat.zero_le _
  refine C1 (A3 (C3 (A2 ?_)))
  refine A5 rfl ?_
  refine A5 rfl ?_
  refine A5 rfl ?_
  refine A5 rfl ?_
  refine A1 rfl (N5 rfl T1 Tryz.sizeOf146 (A0 rfl) (A0 rfl) (by omega) (by simp only [Int.toNat_natCast, List.getElem?_map, hx, Option.map_some]; try rfl)) ?_
  refine A1 rfl (H0 rfl (A0 rfl) Tryz.isAgg146 Tryz.sizeOf146) ?_
  refine A1 rfl (D8 rfl Tryz.call90 rfl (AJ9 _ (by first | assumption | omega | (simp only [] at *; omega))) (A8 (A0 rfl) C8)) ?_
  refine A1 rfl (K9 0 rfl J8 L3 (A0 rfl) rfl (A0 rfl) (by omega) (by rw [Q0 hinv]; omega)) ?_
  refine R8 0 rfl rfl rfl (A0 rfl) (A0 rfl) (I7 _) rfl L3 rfl (by rw [Q0 hinv]; omega) ?_
  refine A4 (A2 ?_)
  refine A5 rfl ?_
  refine A1 rfl (E9 rfl (A0 rfl) B4 (by first | omega | (simp only [D3, B0, szR] at *; omega))) ?_
  refine B1 rfl ?_
  refine A4 ?_
  refine H6 i (i + 1) ?_ ?_ (J9 (by exact congrArg (fun z => [Own.arr v7 144 3 z]) (V4 hx)) ⟨rfl, rfl, rfl, rfl, trivial⟩)
  ·omega
  omega
 intro h11
 have k11 := of_decide_eq_false h11; try simp only [A6] at k11
 have hge : l.length ≤ i := by omega
 rw [V5 hge]
 refine F1 ?_
 refine A3 (A2 ?_)
 refine A5 rfl ?_
 refine B1 rfl ?_
 refine A4 ?_
 refine B8 ?_
 refine c9 0 2 rfl rfl ?_
 exact E4 rfl (B7 rfl (by first | rfl | (refine congrArg AV.bool ?_; simp_all; done)))
theorem Af0 (a b : List TTold) : FSpec Tryz.prog 57 [AV.list 3 (a.map TTold.cs), AV.list 3 (b.map TTold.cs)] (AV.bool (decide (a = b))) := by
 refine D0 Tryz.func57 rfl Tryz.ntmps57 rfl ?_
 refine M6 (t := 0) rfl fun hl => ?_
 try simp only [A6] at hl
 refine A3 (A2 ?_)
 refine A1 rfl (A7 rfl E2) ?_
 refine A4 (A3 (A3 (A2 ?_)))
 refine A5 rfl ?_
 refine A1 rfl (E7 rfl J8 (A0 rfl)) ?_
 refine A5 rfl ?_
 refine A1 rfl (E7 rfl J8 (A0 rfl)) ?_
 refine A1 rfl (S2 rfl (A0 rfl) (A0 rfl)) ?_
 refine A4 ?_
 refine C0 (A0 rfl) ?_ ?_
 ·intro h10
  have k10 := N8 h10; try simp only [A6] at k10
  have hab : a ≠ b := by intro hc; subst hc; exact k10 rfl
  refine A3 (A2 ?_)
  refine A1 rfl (A7 rfl E2) ?_
  refine A4 ?_
  refine B8 ?_
  exact E4 rfl (B7 rfl (by exact congrArg AV.bool (by simp [hab])))
 intro h10
 have k10 := J4 h10; try simp only [A6] at k10
 have heq : a.length = b.length := by omega
 refine C1 (A3 (A3 (A2 ?_)))
 refine A1 rfl (A7 rfl B4) ?_
 refine A4 (C3 ?_)
 refine G4 [(0, _), (1, _)] _ (fun (i : Nat) => i ≤ a.length ∧ a.take i = b.take i) (fun (i : Nat) => []) (fun (i : Nat) => [(5, AV.int i)]) (fun (i : Nat) => a.length - i) (0) ?_ (G6 ⟨rfl, rfl, rfl, trivial⟩) ?_
 ·exact ⟨Nat.zero_le _, rfl⟩
 intro i hinv
 refine A3 (A3 (A2 ?_))
 refine A5 rfl ?_
 refine A5 rfl ?_
 refine A1 rfl (E7 rfl J8 (A0 rfl)) ?_
 refine A1 rfl (F7 rfl (A0 rfl) (A0 rfl)) ?_
 refine A4 ?_
 refine C0 (A0 rfl) ?_ ?_
 ·intro h14
  have k14 := of_decide_eq_true h14; try simp only [A6] at k14
  have hlt : i < a.length := by omega
  obtain ⟨x, hx⟩ := get_some hlt
  obtain ⟨y, hy⟩ := get_some (show i < b.length by omega)
  refine C1 (A3 (C3 (A3 ?_)))
  refine H7 (by kernel_rfl) (by kernel_rfl) rfl ?_
  refine B3 rfl rfl (C4 rfl (A0 rfl)) ?_
  refine B3 rfl rfl (C4 rfl (A0 rfl)) ?_
  refine B3 rfl rfl (N5 rfl J8 L3 (A0 rfl) (A0 rfl) (by omega) (by simp only [Int.toNat_natCast, List.getElem?_map, hx, Option.map_some]; try rfl)) ?_
  refine B3 rfl rfl (H0 rfl (A0 rfl) Z2 L3) ?_
  refine B3 rfl rfl (C4 rfl (A0 rfl)) ?_
  refine B3 rfl rfl (C4 rfl (A0 rfl)) ?_
  refine B3 rfl rfl (N5 rfl J8 L3 (A0 rfl) (A0 rfl) (by omega) (by simp only [Int.toNat_natCast, List.getElem?_map, hy, Option.map_some]; try rfl)) ?_
  refine B3 rfl rfl (H0 rfl (A0 rfl) Z2 L3) ?_
  refine B3 rfl rfl (D8 rfl Tryz.call97 rfl (Ak4 _ _) (A8 (A0 rfl) (A8 (A0 rfl) C8))) ?_
  refine B3 rfl rfl (J3 rfl (A0 rfl)) ?_
  refine O4 ?_
  refine C0 (A0 rfl) ?_ ?_
  ·intro h26
   have hab : a ≠ b := by intro hc; subst hc; rw [hx] at hy; injection hy with hy; subst hy; simp at h26
   refine A3 (A2 ?_)
   refine A1 rfl (A7 rfl E2) ?_
   refine A4 ?_
   refine B8 ?_
   exact E4 rfl (B7 rfl (by exact congrArg AV.bool (by simp [hab])))
  intro h26
  refine C1 (A2 ?_)
  refine A5 rfl ?_
  refine A1 rfl (E9 rfl (A0 rfl) B4 (by first | omega | (simp only [D3, B0, szR] at *; omega))) ?_
  refine B1 rfl ?_
  refine A4 ?_
  refine H6 i (i + 1) ?_ ?_ (G6 ⟨rfl, rfl, rfl, trivial⟩)
  ·exact ⟨by omega, V7 hinv.2 hx (by rw [hy]; congr 1; simp_all)⟩
  omega
 intro h14
 have k14 := of_decide_eq_false h14; try simp only [A6] at k14
 have hge : a.length ≤ i := by omega
 have hab : a = b := Y2 heq hinv.2 hge
 refine F1 ?_
 refine A3 (A2 ?_)
 refine A1 rfl (A7 rfl E2) ?_
 refine A4 ?_
 refine B8 ?_
 exact E4 rfl (B7 rfl (by exact congrArg AV.bool (by simp [hab])))
theorem Af1 (a : TState) (left : Int) (hok : a.ok) (h0 : 0 ≤ left) (h1 : left ≤ 1048576) : FSpec Tryz.prog 14 [AV.agg a.cs, AV.int left] (AV.int (szR a.size left)) := by
 obtain ⟨oCells, oHeld⟩ := hok
 refine D0 Tryz.func14 rfl Tryz.ntmps14 rfl ?_
 refine A3 (A2 ?_)
 refine I6 rfl rfl rfl rfl (A0 rfl) ?_
 intro b2
 refine A1 rfl (A7 rfl B4) ?_
 refine A4 (A3 (A2 ?_))
 refine A1 rfl (B5 1 rfl O7 rfl Tryz.sizeOf30 (A0 rfl) rfl) ?_
 refine A1 rfl (B2 0 rfl (A0 rfl) rfl Tryz.isAgg30 rfl) ?_
 refine A5 rfl ?_
 refine A1 rfl (D8 rfl Tryz.call42 rfl (Ae2 _ _ (by first | assumption | trivial) (by first | omega | (simp only [D3, B0, szR] at *; omega)) (by first | omega | (simp only [D3, B0, szR] at *; omega))) (A8 (A0 rfl) (A8 (A0 rfl) C8))) ?_
 refine B1 rfl ?_
 refine A4 (A3 (A3 (A2 ?_)))
 refine A5 rfl ?_
 refine A1 rfl (F7 rfl (A0 rfl) B4) ?_
 refine A4 ?_
 refine C0 (A0 rfl) ?_ ?_
 ·intro h10
  have k10 := of_decide_eq_true h10; try simp only [A6] at k10
  refine A3 (A2 ?_)
  refine A1 rfl (A7 rfl B4) ?_
  refine A4 ?_
  refine B8 ?_
  exact E4 rfl (B7 rfl (by exact congrArg AV.int (by simp only [szR, TState.size, decide_eq_true_eq, decide_eq_false_iff_not] at *; omega)))
 intro h10
 have k10 := of_decide_eq_false h10; try simp only [A6] at k10
 refine C1 (A3 (A2 ?_))
 refine A1 rfl (B5 2 rfl O7 rfl Tryz.sizeOf31 (A0 rfl) rfl) ?_
 refine A1 rfl (B2 0 rfl (A0 rfl) rfl Tryz.isAgg31 rfl) ?_
 refine A5 rfl ?_
 refine A1 rfl (D8 rfl Tryz.call43 rfl (Ae5 _ _ (by first | assumption | trivial) (by first | omega | (simp only [D3, B0, szR] at *; omega)) (by first | omega | (simp only [D3, B0, szR] at *; omega))) (A8 (A0 rfl) (A8 (A0 rfl) C8))) ?_
 refine B1 rfl ?_
 refine A4 (A3 (A3 (A2 ?_)))
 refine A5 rfl ?_
 refine A1 rfl (F7 rfl (A0 rfl) B4) ?_
 refine A4 ?_
 refine C0 (A0 rfl) ?_ ?_
 ·intro h16
  have k16 := of_decide_eq_true h16; try simp only [A6] at k16
  refine A3 (A2 ?_)
  refine A1 rfl (A7 rfl B4) ?_
  refine A4 ?_
  refine B8 ?_
  exact E4 rfl (B7 rfl (by exact congrArg AV.int (by simp only [szR, TState.size, decide_eq_true_eq, decide_eq_false_iff_not] at *; omega)))
 intro h16
 have k16 := of_decide_eq_false h16; try simp only [A6] at k16
 refine C1 (A3 (A2 ?_))
 refine A1 rfl (B5 3 rfl O7 rfl Tryz.sizeOf32 (A0 rfl) rfl) ?_
 refine A1 rfl (B2 0 rfl (A0 rfl) rfl Tryz.isAgg32 rfl) ?_
 refine A5 rfl ?_
 refine A1 rfl (D8 rfl Tryz.call44 rfl (Ae8 _ _ (by first | assumption | trivial) (by first | omega | (simp only [D3, B0, szR] at *; omega)) (by first | omega | (simp only [D3, B0, szR] at *; omega))) (A8 (A0 rfl) (A8 (A0 rfl) C8))) ?_
 refine B1 rfl ?_
 refine A4 (A3 (A3 (A2 ?_)))
 refine A5 rfl ?_
 refine A1 rfl (F7 rfl (A0 rfl) B4) ?_
 refine A4 ?_
 refine C0 (A0 rfl) ?_ ?_
 ·intro h22
  have k22 := of_decide_eq_true h22; try simp only [A6] at k22
  refine A3 (A2 ?_)
  refine A1 rfl (A7 rfl B4) ?_
  refine A4 ?_
  refine B8 ?_
  exact E4 rfl (B7 rfl (by exact congrArg AV.int (by simp only [szR, TState.size, decide_eq_true_eq, decide_eq_false_iff_not] at *; omega)))
 intro h22
 have k22 := of_decide_eq_false h22; try simp only [A6] at k22
 refine C1 (A3 (A2 ?_))
 refine A5 rfl ?_
 refine B1 rfl ?_
 refine A4 ?_
 refine B8 ?_
 exact E4 rfl (B7 rfl (by exact congrArg AV.int (by simp only [szR, TState.size, decide_eq_true_eq, decide_eq_false_iff_not] at *; omega)))
theorem Af2 (a : TState) (hs : a.size ≤ 1048576) : FSpec Tryz.prog 16 [AV.agg a.cs] (AV.agg a.cs) := by
 unfold TState.size at hs
 refine D0 Tryz.func16 rfl Tryz.ntmps16 rfl ?_
 refine A3 (A2 ?_)
 refine I6 rfl rfl rfl rfl (A0 rfl) ?_
 intro b1
 refine I2 rfl rfl rfl rfl Tryz.zeroValue43 rfl ?_
 intro b2
 refine A4 (A3 (A2 ?_))
 refine I2 rfl rfl rfl rfl Tryz.zeroValue43 rfl ?_
 intro b3
 refine A4 (A3 (A2 ?_))
 refine A1 rfl (B5 0 rfl O7 rfl B9 (A0 rfl) rfl) ?_
 refine A1 rfl (B2 2 rfl (A0 rfl) rfl D1 rfl) ?_
 refine A1 rfl (B5 0 rfl E3 rfl B9 (A0 rfl) rfl) ?_
 refine K2 0 rfl rfl rfl (A0 rfl) (A0 rfl) (P0 _ _) rfl B9 rfl ?_
 refine A4 (A3 (A2 ?_))
 refine A1 rfl (B5 1 rfl O7 rfl Tryz.sizeOf30 (A0 rfl) rfl) ?_
 refine A1 rfl (B2 2 rfl (A0 rfl) rfl Tryz.isAgg30 rfl) ?_
 refine A1 rfl (D8 rfl Tryz.call47 rfl (Ae3 _ (by first | assumption | omega)) (A8 (A0 rfl) C8)) ?_
 refine A1 rfl (B5 1 rfl E3 rfl L6 (A0 rfl) rfl) ?_
 refine K2 0 rfl rfl rfl (A0 rfl) (A0 rfl) (c4 _ _) rfl L6 rfl ?_
 refine A4 (A3 (A2 ?_))
 refine A1 rfl (B5 2 rfl O7 rfl Tryz.sizeOf31 (A0 rfl) rfl) ?_
 refine A1 rfl (B2 2 rfl (A0 rfl) rfl Tryz.isAgg31 rfl) ?_
 refine A1 rfl (D8 rfl Tryz.call48 rfl (Ae6 _ (by first | assumption | omega)) (A8 (A0 rfl) C8)) ?_
 refine A1 rfl (B5 2 rfl E3 rfl M9 (A0 rfl) rfl) ?_
 refine K2 0 rfl rfl rfl (A0 rfl) (A0 rfl) (c4 _ _) rfl M9 rfl ?_
 refine A4 (A3 (A2 ?_))
 refine A1 rfl (B5 3 rfl O7 rfl Tryz.sizeOf32 (A0 rfl) rfl) ?_
 refine A1 rfl (B2 2 rfl (A0 rfl) rfl Tryz.isAgg32 rfl) ?_
 refine A1 rfl (D8 rfl Tryz.call49 rfl (Ae9 _ (by first | assumption | omega)) (A8 (A0 rfl) C8)) ?_
 refine A1 rfl (B5 3 rfl E3 rfl Q9 (A0 rfl) rfl) ?_
 refine K2 0 rfl rfl rfl (A0 rfl) (A0 rfl) (c4 _ _) rfl Q9 rfl ?_
 refine A4 (A3 (A2 ?_))
 refine A1 rfl (L5 0 rfl (A0 rfl) rfl N3 I0 rfl) ?_
 refine G9 1 rfl rfl rfl (A0 rfl) (A0 rfl) (I7 _) rfl I0 rfl ?_
 refine A4 ?_
 refine B8 ?_
 exact E4 rfl (S6 (ys := _) 1 rfl rfl N3 I0 rfl)
theorem Af3 (a b : TState) : FSpec Tryz.prog 19 [AV.agg a.cs, AV.agg b.cs] (AV.bool (decide (a = b))) := by
 refine D0 Tryz.func19 rfl Tryz.ntmps19 rfl ?_
 refine A3 (A2 ?_)
 refine I6 rfl rfl rfl rfl (A0 rfl) ?_
 intro b2
 refine I6 rfl rfl rfl rfl (A0 rfl) ?_
 intro b3
 refine A1 rfl (A7 rfl E2) ?_
 refine A4 (A3 (A3 (A2 ?_)))
 refine A1 rfl (B5 0 rfl E3 rfl B9 (A0 rfl) rfl) ?_
 refine A1 rfl (B2 1 rfl (A0 rfl) rfl D1 rfl) ?_
 refine A1 rfl (B5 0 rfl E3 rfl B9 (A0 rfl) rfl) ?_
 refine A1 rfl (B2 0 rfl (A0 rfl) rfl D1 rfl) ?_
 refine A1 rfl (S2 rfl (A0 rfl) (A0 rfl)) ?_
 refine A4 ?_
 refine C0 (A0 rfl) ?_ ?_
 ·intro h9
  have k9 := N8 h9; try simp only [A6] at k9
  refine A3 (A2 ?_)
  refine A1 rfl (A7 rfl E2) ?_
  refine A4 ?_
  refine B8 ?_
  exact E4 rfl (B7 rfl (by exact congrArg AV.bool (by cases a; cases b; simp_all)))
 intro h9
 have k9 := J4 h9; try simp only [A6] at k9
 refine C1 (A3 (A3 (A2 ?_)))
 refine A1 rfl (B5 1 rfl E3 rfl L6 (A0 rfl) rfl) ?_
 refine A1 rfl (B2 1 rfl (A0 rfl) rfl O3 rfl) ?_
 refine A1 rfl (B5 1 rfl E3 rfl L6 (A0 rfl) rfl) ?_
 refine A1 rfl (B2 0 rfl (A0 rfl) rfl O3 rfl) ?_
 refine A1 rfl (D8 rfl Tryz.call55 rfl (Ae4 _ _) (A8 (A0 rfl) (A8 (A0 rfl) C8))) ?_
 refine A1 rfl (J3 rfl (A0 rfl)) ?_
 refine A4 ?_
 refine C0 (A0 rfl) ?_ ?_
 ·intro h15
  refine A3 (A2 ?_)
  refine A1 rfl (A7 rfl E2) ?_
  refine A4 ?_
  refine B8 ?_
  exact E4 rfl (B7 rfl (by exact congrArg AV.bool (by cases a; cases b; simp_all)))
 intro h15
 refine C1 (A3 (A3 (A2 ?_)))
 refine A1 rfl (B5 2 rfl E3 rfl M9 (A0 rfl) rfl) ?_
 refine A1 rfl (B2 1 rfl (A0 rfl) rfl P9 rfl) ?_
 refine A1 rfl (B5 2 rfl E3 rfl M9 (A0 rfl) rfl) ?_
 refine A1 rfl (B2 0 rfl (A0 rfl) rfl P9 rfl) ?_
 refine A1 rfl (D8 rfl Tryz.call56 rfl (Ae7 _ _) (A8 (A0 rfl) (A8 (A0 rfl) C8))) ?_
 refine A1 rfl (J3 rfl (A0 rfl)) ?_
 refine A4 ?_
 refine C0 (A0 rfl) ?_ ?_
 ·intro h21
  refine A3 (A2 ?_)
  refine A1 rfl (A7 rfl E2) ?_
  refine A4 ?_
  refine B8 ?_
  exact E4 rfl (B7 rfl (by exact congrArg AV.bool (by cases a; cases b; simp_all)))
 intro h21
 refine C1 (A3 (A3 (A2 ?_)))
 refine A1 rfl (B5 3 rfl E3 rfl Q9 (A0 rfl) rfl) ?_
 refine A1 rfl (B2 1 rfl (A0 rfl) rfl V2 rfl) ?_
 refine A1 rfl (B5 3 rfl E3 rfl Q9 (A0 rfl) rfl) ?_
 refine A1 rfl (B2 0 rfl (A0 rfl) rfl V2 rfl) ?_
 refine A1 rfl (D8 rfl Tryz.call57 rfl (Af0 _ _) (A8 (A0 rfl) (A8 (A0 rfl) C8))) ?_
 refine A1 rfl (J3 rfl (A0 rfl)) ?_
 refine A4 ?_
 refine C0 (A0 rfl) ?_ ?_
 ·intro h27
  refine A3 (A2 ?_)
  refine A1 rfl (A7 rfl E2) ?_
  refine A4 ?_
  refine B8 ?_
  exact E4 rfl (B7 rfl (by exact congrArg AV.bool (by cases a; cases b; simp_all)))
 intro h27
 refine C1 (A3 (A2 ?_))
 refine A1 rfl (A7 rfl E2) ?_
 refine A4 ?_
 refine B8 ?_
 exact E4 rfl (B7 rfl (by exact congrArg AV.bool (by cases a; cases b; simp_all)))
theorem AY9 (l : List TState) (left : Int) (hok : (∀ x ∈ l, x.ok)) (h0 : 0 ≤ left) (h1 : left ≤ 1048576) : FSpec Tryz.prog 9 [AV.list 4 (l.map TState.cs), AV.int left] (AV.int (szR (sizeL TState.size l) left)) := by
 refine D0 Tryz.func9 rfl Tryz.ntmps9 rfl ?_
 refine M6 (t := 0) rfl fun hl => ?_
 try simp only [A6] at hl
 refine A3 (A2 ?_)
 refine A1 rfl (A7 rfl B4) ?_
 refine A4 (A3 (A2 ?_))
 refine A5 rfl ?_
 refine A5 rfl ?_
 refine A1 rfl (E7 rfl P5 (A0 rfl)) ?_
 refine A1 rfl (O8 rfl (A0 rfl) (A0 rfl) (by first | omega | (simp only [D3, B0, szR] at *; omega))) ?_
 refine B1 rfl ?_
 refine A4 (A3 (A3 (A2 ?_)))
 refine A5 rfl ?_
 refine A1 rfl (F7 rfl (A0 rfl) B4) ?_
 refine A4 ?_
 refine C0 (A0 rfl) ?_ ?_
 ·intro h11
  have k11 := of_decide_eq_true h11; try simp only [A6] at k11
  refine A3 (A2 ?_)
  refine A1 rfl (A7 rfl B4) ?_
  refine A4 ?_
  refine B8 ?_
  exact E4 rfl (B7 rfl (by exact congrArg AV.int (by simp only [szR, sizeL, A6, decide_eq_true_eq, decide_eq_false_iff_not] at *; omega)))
 intro h11
 have k11 := of_decide_eq_false h11; try simp only [A6] at k11
 refine C1 (A3 (A3 (A2 ?_)))
 refine A1 rfl (A7 rfl B4) ?_
 refine A4 (C3 ?_)
 refine J7 [(0, _)] _ (fun (i : Nat) (b : Int) => i ≤ l.length ∧ b = left - l.length - (((l.take i).map TState.size).sum : Nat) ∧ 0 ≤ b) (fun (i : Nat) (b : Int) => []) (fun (i : Nat) (b : Int) => [(1, AV.int b), (5, AV.int i)]) (fun (i : Nat) (b : Int) => l.length - i) (0) (left - ((l.map fun x => TState.cs x).length : Int)) ?_ (G6 ⟨rfl, rfl, rfl, trivial⟩) ?_
 ·exact ⟨Nat.zero_le _, by simp, by simp only [A6]; omega⟩
 intro i b hinv
 refine A3 (A3 (A2 ?_))
 refine A5 rfl ?_
 refine A5 rfl ?_
 refine A1 rfl (E7 rfl P5 (A0 rfl)) ?_
 refine A1 rfl (F7 rfl (A0 rfl) (A0 rfl)) ?_
 refine A4 ?_
 refine C0 (A0 rfl) ?_ ?_
 ·intro h15
  have k15 := of_decide_eq_true h15; try simp only [A6] at k15
  have hlt : i < l.length := by omega
  obtain ⟨x, hx⟩ := get_some hlt
  have e2 := p5 TState.size l i x hx
  have hokx := hok x (H5 hx)
  refine C1 (A3 (C3 (A3 (A2 ?_))))
  refine A5 rfl ?_
  refine A5 rfl ?_
  refine A1 rfl (N5 rfl P5 Z3 (A0 rfl) (A0 rfl) (by omega) (by simp only [Int.toNat_natCast, List.getElem?_map, hx, Option.map_some]; try rfl)) ?_
  refine A1 rfl (H0 rfl (A0 rfl) Tryz.isAgg34 Z3) ?_
  refine A5 rfl ?_
  refine A1 rfl (D8 rfl Tryz.call14 rfl (Af1 _ _ (by assumption) (by first | omega | (simp only [D3, B0, szR] at *; omega)) (by first | omega | (simp only [D3, B0, szR] at *; omega))) (A8 (A0 rfl) (A8 (A0 rfl) C8))) ?_
  refine B1 rfl ?_
  refine A4 (A3 (A2 ?_))
  refine A5 rfl ?_
  refine A1 rfl (F7 rfl (A0 rfl) B4) ?_
  refine A4 ?_
  refine C0 (A0 rfl) ?_ ?_
  ·intro h25
   have k25 := of_decide_eq_true h25; try simp only [A6] at k25
   refine A3 (A2 ?_)
   refine A1 rfl (A7 rfl B4) ?_
   refine A4 ?_
   refine B8 ?_
   exact E4 rfl (B7 rfl (by exact congrArg AV.int (by simp only [szR, sizeL, A6, decide_eq_true_eq, decide_eq_false_iff_not] at *; omega)))
  intro h25
  have k25 := of_decide_eq_false h25; try simp only [A6] at k25
  refine C1 (A2 ?_)
  refine A5 rfl ?_
  refine A1 rfl (E9 rfl (A0 rfl) B4 (by first | omega | (simp only [D3, B0, szR] at *; omega))) ?_
  refine B1 rfl ?_
  refine A4 ?_
  refine J5 i b (i + 1) ((szR (TState.size x) b)) ?_ ?_ (G6 ⟨rfl, rfl, rfl, trivial⟩)
  ·exact ⟨by omega, by have e1 := j4 TState.size l i x hx; simp only [szR, decide_eq_false_iff_not] at *; omega, by omega⟩
  omega
 intro h15
 have k15 := of_decide_eq_false h15; try simp only [A6] at k15
 have hge : l.length ≤ i := by omega
 have e3 : ((l.take i).map TState.size).sum = (l.map TState.size).sum := by rw [List.take_of_length_le hge]
 refine F1 ?_
 refine A3 (A2 ?_)
 refine A5 rfl ?_
 refine B1 rfl ?_
 refine A4 ?_
 refine B8 ?_
 exact E4 rfl (B7 rfl (by exact congrArg AV.int (by simp only [szR, sizeL, A6, decide_eq_true_eq, decide_eq_false_iff_not] at *; omega)))
theorem r5 (l : List TState) (hs : sizeL TState.size l ≤ 1048576) : FSpec Tryz.prog 11 [AV.list 4 (l.map TState.cs)] (AV.list 4 (l.map TState.cs)) := by
 have hsl : l.length ≤ 1048576 := Nat.le_trans L4 hs
 refine D0 Tryz.func11 rfl Tryz.ntmps11 rfl ?_
 refine A3 (A2 ?_)
 refine A1 rfl (A7 rfl (c0 (sz := 4))) ?_
 refine A4 (A3 (A2 ?_))
 refine A5 rfl ?_
 refine A1 rfl (E7 rfl P5 (A0 rfl)) ?_
 refine W1 (by' := 80) rfl rfl rfl rfl I4 Tryz.type43 rfl rfl rfl rfl rfl rfl (A0 rfl) (A0 rfl) (by simp only [A6]; omega) (by simp only [A6]; omega) ?_
 intro v7
 refine B1 rfl ?_
 refine A4 (A3 (A3 (A2 ?_)))
 refine A1 rfl (A7 rfl B4) ?_
 refine A4 (C3 ?_)
 refine G4 [(0, _), (2, _), (3, _)] _ (fun (i : Nat) => i ≤ l.length) (fun (i : Nat) => [.arr v7 43 4 ((l.take i).map TState.cs ++ List.replicate (l.length - i) [AV.int 0, AV.nils, AV.nils, AV.nils])]) (fun (i : Nat) => [(4, AV.int i)]) (fun (i : Nat) => l.length - i) (0) ?_ (J9 (by simp only [A6]; rfl) ⟨rfl, rfl, rfl, rfl, trivial⟩) ?_
 ·exact Nat.zero_le _
 intro i hinv
 refine A3 (A3 (A2 ?_))
 refine A5 rfl ?_
 refine A5 rfl ?_
 refine A1 rfl (E7 rfl P5 (A0 rfl)) ?_
 refine A1 rfl (F7 rfl (A0 rfl) (A0 rfl)) ?_
 refine A4 ?_
 refine C0 (A0 rfl) ?_ ?_
 ·intro h11
  have k11 := of_decide_eq_true h11; try simp only [A6] at k11
  have hlt : i < l.length := by omega
  obtain ⟨x, hx⟩ := get_some hlt
  have hsx : TState.size x ≤ 1048576 := Nat.le_trans (Q1 hx) hs
  refine C1 (A3 (C3 (A2 ?_)))
  refine A5 rfl ?_
  refine A5 rfl ?_
  refine A5 rfl ?_
  refine A5 rfl ?_
  refine A1 rfl (N5 rfl P5 Z3 (A0 rfl) (A0 rfl) (by omega) (by simp only [Int.toNat_natCast, List.getElem?_map, hx, Option.map_some]; try rfl)) ?_
  refine A1 rfl (H0 rfl (A0 rfl) Tryz.isAgg34 Z3) ?_
  refine A1 rfl (D8 rfl Tryz.call16 rfl (Af2 _ (by first | assumption | omega | (simp only [] at *; omega))) (A8 (A0 rfl) C8)) ?_
  refine A1 rfl (K9 0 rfl I4 I0 (A0 rfl) rfl (A0 rfl) (by omega) (by rw [Q0 hinv]; omega)) ?_
  refine R8 0 rfl rfl rfl (A0 rfl) (A0 rfl) (I7 _) rfl I0 rfl (by rw [Q0 hinv]; omega) ?_
  refine A4 (A2 ?_)
  refine A5 rfl ?_
  refine A1 rfl (E9 rfl (A0 rfl) B4 (by first | omega | (simp only [D3, B0, szR] at *; omega))) ?_
  refine B1 rfl ?_
  refine A4 ?_
  refine H6 i (i + 1) ?_ ?_ (J9 (by exact congrArg (fun z => [Own.arr v7 43 4 z]) (V4 hx)) ⟨rfl, rfl, rfl, rfl, trivial⟩)
  ·omega
  omega
 intro h11
 have k11 := of_decide_eq_false h11; try simp only [A6] at k11
 have hge : l.length ≤ i := by omega
 rw [V5 hge]
 refine F1 ?_
 refine A3 (A2 ?_)
 refine A5 rfl ?_
 refine B1 rfl ?_
 refine A4 ?_
 refine B8 ?_
 refine c9 0 2 rfl rfl ?_
 exact E4 rfl (B7 rfl (by first | rfl | (refine congrArg AV.bool ?_; simp_all; done)))
theorem AZ0 (a b : List TState) : FSpec Tryz.prog 13 [AV.list 4 (a.map TState.cs), AV.list 4 (b.map TState.cs)] (AV.bool (decide (a = b))) := by
 refine D0 Tryz.func13 rfl Tryz.ntmps13 rfl ?_
 refine M6 (t := 0) rfl fun hl => ?_
 try simp only [A6] at hl
 refine A3 (A2 ?_)
 refine A1 rfl (A7 rfl E2) ?_
 refine A4 (A3 (A3 (A2 ?_)))
 refine A5 rfl ?_
 refine A1 rfl (E7 rfl I4 (A0 rfl)) ?_
 refine A5 rfl ?_
 refine A1 rfl (E7 rfl I4 (A0 rfl)) ?_
 refine A1 rfl (S2 rfl (A0 rfl) (A0 rfl)) ?_
 refine A4 ?_
 refine C0 (A0 rfl) ?_ ?_
 ·intro h10
  have k10 := N8 h10; try simp only [A6] at k10
  have hab : a ≠ b := by intro hc; subst hc; exact k10 rfl
  refine A3 (A2 ?_)
  refine A1 rfl (A7 rfl E2) ?_
  refine A4 ?_
  refine B8 ?_
  exact E4 rfl (B7 rfl (by exact congrArg AV.bool (by simp [hab])))
 intro h10
 have k10 := J4 h10; try simp only [A6] at k10
 have heq : a.length = b.length := by omega
 refine C1 (A3 (A3 (A2 ?_)))
 refine A1 rfl (A7 rfl B4) ?_
 refine A4 (C3 ?_)
 refine G4 [(0, _), (1, _)] _ (fun (i : Nat) => i ≤ a.length ∧ a.take i = b.take i) (fun (i : Nat) => []) (fun (i : Nat) => [(5, AV.int i)]) (fun (i : Nat) => a.length - i) (0) ?_ (G6 ⟨rfl, rfl, rfl, trivial⟩) ?_
 ·exact ⟨Nat.zero_le _, rfl⟩
 intro i hinv
 refine A3 (A3 (A2 ?_))
 refine A5 rfl ?_
 refine A5 rfl ?_
 refine A1 rfl (E7 rfl I4 (A0 rfl)) ?_
 refine A1 rfl (F7 rfl (A0 rfl) (A0 rfl)) ?_
 refine A4 ?_
 refine C0 (A0 rfl) ?_ ?_
 ·intro h14
  have k14 := of_decide_eq_true h14; try simp only [A6] at k14
  have hlt : i < a.length := by omega
  obtain ⟨x, hx⟩ := get_some hlt
  obtain ⟨y, hy⟩ := get_some (show i < b.length by omega)
  refine C1 (A3 (C3 (A3 ?_)))
  refine H7 (by kernel_rfl) (by kernel_rfl) rfl ?_
  refine B3 rfl rfl (C4 rfl (A0 rfl)) ?_
  refine B3 rfl rfl (C4 rfl (A0 rfl)) ?_
  refine B3 rfl rfl (N5 rfl I4 I0 (A0 rfl) (A0 rfl) (by omega) (by simp only [Int.toNat_natCast, List.getElem?_map, hx, Option.map_some]; try rfl)) ?_
  refine B3 rfl rfl (H0 rfl (A0 rfl) N3 I0) ?_
  refine B3 rfl rfl (C4 rfl (A0 rfl)) ?_
  refine B3 rfl rfl (C4 rfl (A0 rfl)) ?_
  refine B3 rfl rfl (N5 rfl I4 I0 (A0 rfl) (A0 rfl) (by omega) (by simp only [Int.toNat_natCast, List.getElem?_map, hy, Option.map_some]; try rfl)) ?_
  refine B3 rfl rfl (H0 rfl (A0 rfl) N3 I0) ?_
  refine B3 rfl rfl (D8 rfl Tryz.call19 rfl (Af3 _ _) (A8 (A0 rfl) (A8 (A0 rfl) C8))) ?_
  refine B3 rfl rfl (J3 rfl (A0 rfl)) ?_
  refine O4 ?_
  refine C0 (A0 rfl) ?_ ?_
  ·intro h26
   have hab : a ≠ b := by intro hc; subst hc; rw [hx] at hy; injection hy with hy; subst hy; simp at h26
   refine A3 (A2 ?_)
   refine A1 rfl (A7 rfl E2) ?_
   refine A4 ?_
   refine B8 ?_
   exact E4 rfl (B7 rfl (by exact congrArg AV.bool (by simp [hab])))
  intro h26
  refine C1 (A2 ?_)
  refine A5 rfl ?_
  refine A1 rfl (E9 rfl (A0 rfl) B4 (by first | omega | (simp only [D3, B0, szR] at *; omega))) ?_
  refine B1 rfl ?_
  refine A4 ?_
  refine H6 i (i + 1) ?_ ?_ (G6 ⟨rfl, rfl, rfl, trivial⟩)
  ·exact ⟨by omega, V7 hinv.2 hx (by rw [hy]; congr 1; simp_all)⟩
  omega
 intro h14
 have k14 := of_decide_eq_false h14; try simp only [A6] at k14
 have hge : a.length ≤ i := by omega
 have hab : a = b := Y2 heq hinv.2 hge
 refine F1 ?_
 refine A3 (A2 ?_)
 refine A1 rfl (A7 rfl E2) ?_
 refine A4 ?_
 refine B8 ?_
 exact E4 rfl (B7 rfl (by exact congrArg AV.bool (by simp [hab])))
theorem AP4 (a b : TFeedItem) : FSpec Tryz.prog 54 [AV.agg a.cs, AV.agg b.cs] (AV.bool (decide (a = b))) := by
 refine D0 Tryz.func54 rfl Tryz.ntmps54 rfl ?_
 refine A3 (A2 ?_)
 refine I6 rfl rfl rfl rfl (A0 rfl) ?_
 intro b2
 refine I6 rfl rfl rfl rfl (A0 rfl) ?_
 intro b3
 refine A1 rfl (A7 rfl E2) ?_
 refine A4 (A3 (A3 (A2 ?_)))
 refine A1 rfl (B5 0 rfl F4 rfl B9 (A0 rfl) rfl) ?_
 refine A1 rfl (B2 1 rfl (A0 rfl) rfl D1 rfl) ?_
 refine A1 rfl (B5 0 rfl F4 rfl B9 (A0 rfl) rfl) ?_
 refine A1 rfl (B2 0 rfl (A0 rfl) rfl D1 rfl) ?_
 refine A1 rfl (S2 rfl (A0 rfl) (A0 rfl)) ?_
 refine A4 ?_
 refine C0 (A0 rfl) ?_ ?_
 ·intro h9
  have k9 := N8 h9; try simp only [A6] at k9
  refine A3 (A2 ?_)
  refine A1 rfl (A7 rfl E2) ?_
  refine A4 ?_
  refine B8 ?_
  exact E4 rfl (B7 rfl (by exact congrArg AV.bool (by cases a; cases b; simp_all)))
 intro h9
 have k9 := J4 h9; try simp only [A6] at k9
 refine C1 (A3 (A3 (A2 ?_)))
 refine A1 rfl (B5 1 rfl F4 rfl B9 (A0 rfl) rfl) ?_
 refine A1 rfl (B2 1 rfl (A0 rfl) rfl D1 rfl) ?_
 refine A1 rfl (B5 1 rfl F4 rfl B9 (A0 rfl) rfl) ?_
 refine A1 rfl (B2 0 rfl (A0 rfl) rfl D1 rfl) ?_
 refine A1 rfl (S2 rfl (A0 rfl) (A0 rfl)) ?_
 refine A4 ?_
 refine C0 (A0 rfl) ?_ ?_
 ·intro h14
  have k14 := N8 h14; try simp only [A6] at k14
  refine A3 (A2 ?_)
  refine A1 rfl (A7 rfl E2) ?_
  refine A4 ?_
  refine B8 ?_
  exact E4 rfl (B7 rfl (by exact congrArg AV.bool (by cases a; cases b; simp_all)))
 intro h14
 have k14 := J4 h14; try simp only [A6] at k14
 refine C1 (A3 (A3 (A2 ?_)))
 refine A1 rfl (B5 2 rfl F4 rfl D2 (A0 rfl) rfl) ?_
 refine A1 rfl (B2 1 rfl (A0 rfl) rfl E6 rfl) ?_
 refine A1 rfl (B5 2 rfl F4 rfl D2 (A0 rfl) rfl) ?_
 refine A1 rfl (B2 0 rfl (A0 rfl) rfl E6 rfl) ?_
 refine A1 rfl (a7 rfl (A0 rfl) (A0 rfl)) ?_
 refine A4 ?_
 refine C0 (A0 rfl) ?_ ?_
 ·intro h19
  refine A3 (A2 ?_)
  refine A1 rfl (A7 rfl E2) ?_
  refine A4 ?_
  refine B8 ?_
  exact E4 rfl (B7 rfl (by exact congrArg AV.bool (by cases a; cases b; simp_all)))
 intro h19
 refine C1 (A3 (A3 (A2 ?_)))
 refine A1 rfl (B5 3 rfl F4 rfl D2 (A0 rfl) rfl) ?_
 refine A1 rfl (B2 1 rfl (A0 rfl) rfl E6 rfl) ?_
 refine A1 rfl (B5 3 rfl F4 rfl D2 (A0 rfl) rfl) ?_
 refine A1 rfl (B2 0 rfl (A0 rfl) rfl E6 rfl) ?_
 refine A1 rfl (a7 rfl (A0 rfl) (A0 rfl)) ?_
 refine A4 ?_
 refine C0 (A0 rfl) ?_ ?_
 ·intro h24
  refine A3 (A2 ?_)
  refine A1 rfl (A7 rfl E2) ?_
  refine A4 ?_
  refine B8 ?_
  exact E4 rfl (B7 rfl (by exact congrArg AV.bool (by cases a; cases b; simp_all)))
 intro h24
 refine C1 (A3 (A3 (A2 ?_)))
 refine A1 rfl (B5 4 rfl F4 rfl G3 (A0 rfl) rfl) ?_
 refine A1 rfl (B2 1 rfl (A0 rfl) rfl I9 rfl) ?_
 refine A1 rfl (B5 4 rfl F4 rfl G3 (A0 rfl) rfl) ?_
 refine A1 rfl (B2 0 rfl (A0 rfl) rfl I9 rfl) ?_
 refine A1 rfl (o7 rfl O6 (A0 rfl) (A0 rfl)) ?_
 refine A4 ?_
 refine C0 (A0 rfl) ?_ ?_
 ·intro h29
  refine A3 (A2 ?_)
  refine A1 rfl (A7 rfl E2) ?_
  refine A4 ?_
  refine B8 ?_
  exact E4 rfl (B7 rfl (by exact congrArg AV.bool (by cases a; cases b; simp_all)))
 intro h29
 refine C1 (A3 (A2 ?_))
 refine A1 rfl (A7 rfl E2) ?_
 refine A4 ?_
 refine B8 ?_
 exact E4 rfl (B7 rfl (by exact congrArg AV.bool (by cases a; cases b; simp_all)))
theorem r6 (a : TFeeder) (hs : a.size ≤ 1048576) : FSpec Tryz.prog 24 [AV.agg a.cs] (AV.agg a.cs) := by
 unfold TFeeder.size at hs
 refine D0 Tryz.func24 rfl Tryz.ntmps24 rfl ?_
 refine A3 (A2 ?_)
 refine I6 rfl rfl rfl rfl (A0 rfl) ?_
 intro b1
 refine I2 rfl rfl rfl rfl Tryz.zeroValue52 rfl ?_
 intro b2
 refine A4 (A3 (A2 ?_))
 refine I2 rfl rfl rfl rfl Tryz.zeroValue52 rfl ?_
 intro b3
 refine A4 (A3 (A2 ?_))
 refine A1 rfl (B5 0 rfl Tryz.underlying51 rfl B9 (A0 rfl) rfl) ?_
 refine A1 rfl (B2 2 rfl (A0 rfl) rfl D1 rfl) ?_
 refine A1 rfl (B5 0 rfl M7 rfl B9 (A0 rfl) rfl) ?_
 refine K2 0 rfl rfl rfl (A0 rfl) (A0 rfl) (P0 _ _) rfl B9 rfl ?_
 refine A4 (A3 (A2 ?_))
 refine A1 rfl (L5 0 rfl (A0 rfl) rfl R5 L1 rfl) ?_
 refine G9 1 rfl rfl rfl (A0 rfl) (A0 rfl) (I7 _) rfl L1 rfl ?_
 refine A4 ?_
 refine B8 ?_
 exact E4 rfl (S6 (ys := _) 1 rfl rfl R5 L1 rfl)
theorem r7 (a b : TFeeder) : FSpec Tryz.prog 26 [AV.agg a.cs, AV.agg b.cs] (AV.bool (decide (a = b))) := by
 refine D0 Tryz.func26 rfl Tryz.ntmps26 rfl ?_
 refine A3 (A2 ?_)
 refine I6 rfl rfl rfl rfl (A0 rfl) ?_
 intro b2
 refine I6 rfl rfl rfl rfl (A0 rfl) ?_
 intro b3
 refine A1 rfl (A7 rfl E2) ?_
 refine A4 (A3 (A3 (A2 ?_)))
 refine A1 rfl (B5 0 rfl M7 rfl B9 (A0 rfl) rfl) ?_
 refine A1 rfl (B2 1 rfl (A0 rfl) rfl D1 rfl) ?_
 refine A1 rfl (B5 0 rfl M7 rfl B9 (A0 rfl) rfl) ?_
 refine A1 rfl (B2 0 rfl (A0 rfl) rfl D1 rfl) ?_
 refine A1 rfl (S2 rfl (A0 rfl) (A0 rfl)) ?_
 refine A4 ?_
 refine C0 (A0 rfl) ?_ ?_
 ·intro h9
  have k9 := N8 h9; try simp only [A6] at k9
  refine A3 (A2 ?_)
  refine A1 rfl (A7 rfl E2) ?_
  refine A4 ?_
  refine B8 ?_
  exact E4 rfl (B7 rfl (by exact congrArg AV.bool (by cases a; cases b; simp_all)))
 intro h9
 have k9 := J4 h9; try simp only [A6] at k9
 refine C1 (A3 (A2 ?_))
 refine A1 rfl (A7 rfl E2) ?_
 refine A4 ?_
 refine B8 ?_
 exact E4 rfl (B7 rfl (by exact congrArg AV.bool (by cases a; cases b; simp_all)))
theorem j6 (a b : List TFeedItem) : FSpec Tryz.prog 18 [AV.list 5 (a.map TFeedItem.cs), AV.list 5 (b.map TFeedItem.cs)] (AV.bool (decide (a = b))) := by
 refine D0 Tryz.func18 rfl Tryz.ntmps18 rfl ?_
 refine M6 (t := 0) rfl fun hl => ?_
 try simp only [A6] at hl
 refine A3 (A2 ?_)
 refine A1 rfl (A7 rfl E2) ?_
 refine A4 (A3 (A3 (A2 ?_)))
 refine A5 rfl ?_
 refine A1 rfl (E7 rfl E5 (A0 rfl)) ?_
 refine A5 rfl ?_
 refine A1 rfl (E7 rfl E5 (A0 rfl)) ?_
 refine A1 rfl (S2 rfl (A0 rfl) (A0 rfl)) ?_
 refine A4 ?_
 refine C0 (A0 rfl) ?_ ?_
 ·intro h10
  have k10 := N8 h10; try simp only [A6] at k10
  have hab : a ≠ b := by intro hc; subst hc; exact k10 rfl
  refine A3 (A2 ?_)
  refine A1 rfl (A7 rfl E2) ?_
  refine A4 ?_
  refine B8 ?_
  exact E4 rfl (B7 rfl (by exact congrArg AV.bool (by simp [hab])))
 intro h10
 have k10 := J4 h10; try simp only [A6] at k10
 have heq : a.length = b.length := by omega
 refine C1 (A3 (A3 (A2 ?_)))
 refine A1 rfl (A7 rfl B4) ?_
 refine A4 (C3 ?_)
 refine G4 [(0, _), (1, _)] _ (fun (i : Nat) => i ≤ a.length ∧ a.take i = b.take i) (fun (i : Nat) => []) (fun (i : Nat) => [(5, AV.int i)]) (fun (i : Nat) => a.length - i) (0) ?_ (G6 ⟨rfl, rfl, rfl, trivial⟩) ?_
 ·exact ⟨Nat.zero_le _, rfl⟩
 intro i hinv
 refine A3 (A3 (A2 ?_))
 refine A5 rfl ?_
 refine A5 rfl ?_
 refine A1 rfl (E7 rfl E5 (A0 rfl)) ?_
 refine A1 rfl (F7 rfl (A0 rfl) (A0 rfl)) ?_
 refine A4 ?_
 refine C0 (A0 rfl) ?_ ?_
 ·intro h14
  have k14 := of_decide_eq_true h14; try simp only [A6] at k14
  have hlt : i < a.length := by omega
  obtain ⟨x, hx⟩ := get_some hlt
  obtain ⟨y, hy⟩ := get_some (show i < b.length by omega)
  refine C1 (A3 (C3 (A3 ?_)))
  refine H7 (by kernel_rfl) (by kernel_rfl) rfl ?_
  refine B3 rfl rfl (C4 rfl (A0 rfl)) ?_
  refine B3 rfl rfl (C4 rfl (A0 rfl)) ?_
  refine B3 rfl rfl (N5 rfl E5 G0 (A0 rfl) (A0 rfl) (by omega) (by simp only [Int.toNat_natCast, List.getElem?_map, hx, Option.map_some]; try rfl)) ?_
  refine B3 rfl rfl (H0 rfl (A0 rfl) P6 G0) ?_
  refine B3 rfl rfl (C4 rfl (A0 rfl)) ?_
  refine B3 rfl rfl (C4 rfl (A0 rfl)) ?_
  refine B3 rfl rfl (N5 rfl E5 G0 (A0 rfl) (A0 rfl) (by omega) (by simp only [Int.toNat_natCast, List.getElem?_map, hy, Option.map_some]; try rfl)) ?_
  refine B3 rfl rfl (H0 rfl (A0 rfl) P6 G0) ?_
  refine B3 rfl rfl (D8 rfl Tryz.call54 rfl (AP4 _ _) (A8 (A0 rfl) (A8 (A0 rfl) C8))) ?_
  refine B3 rfl rfl (J3 rfl (A0 rfl)) ?_
  refine O4 ?_
  refine C0 (A0 rfl) ?_ ?_
  ·intro h26
   have hab : a ≠ b := by intro hc; subst hc; rw [hx] at hy; injection hy with hy; subst hy; simp at h26
   refine A3 (A2 ?_)
   refine A1 rfl (A7 rfl E2) ?_
   refine A4 ?_
   refine B8 ?_
   exact E4 rfl (B7 rfl (by exact congrArg AV.bool (by simp [hab])))
  intro h26
  refine C1 (A2 ?_)
  refine A5 rfl ?_
  refine A1 rfl (E9 rfl (A0 rfl) B4 (by first | omega | (simp only [D3, B0, szR] at *; omega))) ?_
  refine B1 rfl ?_
  refine A4 ?_
  refine H6 i (i + 1) ?_ ?_ (G6 ⟨rfl, rfl, rfl, trivial⟩)
  ·exact ⟨by omega, V7 hinv.2 hx (by rw [hy]; congr 1; simp_all)⟩
  omega
 intro h14
 have k14 := of_decide_eq_false h14; try simp only [A6] at k14
 have hge : a.length ≤ i := by omega
 have hab : a = b := Y2 heq hinv.2 hge
 refine F1 ?_
 refine A3 (A2 ?_)
 refine A1 rfl (A7 rfl E2) ?_
 refine A4 ?_
 refine B8 ?_
 exact E4 rfl (B7 rfl (by exact congrArg AV.bool (by simp [hab])))
end Go.Proofs.YtkegepoihkhihaaGreat

namespace Go.M
open Go.AV
end Go.M
namespace Go.Proofs.YtkegepoihkhihaaGreat
open Go Go.AV Go.M
attribute [local irreducible] OpW OpA OpS AWP FSpec ESpec GSpec OpE RetOk RetOkG RvDen Le Ev GuardIs SrcIs Int.tmod Int.tdiv IntKind.wrap
end Go.Proofs.YtkegepoihkhihaaGreat

namespace Go.M
open Go.AV
end Go.M
namespace Go.Proofs.YtkegepoihkhihaaGreat
open Go Go.AV Go.M
attribute [local irreducible] OpW OpA OpS AWP FSpec ESpec GSpec OpE RetOk RetOkG RvDen Le Ev GuardIs SrcIs Int.tmod Int.tdiv IntKind.wrap
end Go.Proofs.YtkegepoihkhihaaGreat

namespace Go.M
open Go.AV
end Go.M
namespace Go.Proofs.YtkegepoihkhihaaGreat
open Go Go.AV Go.M
attribute [local irreducible] OpW OpA OpS AWP FSpec ESpec GSpec OpE RetOk RetOkG RvDen Le Ev GuardIs SrcIs Int.tmod Int.tdiv IntKind.wrap
end Go.Proofs.YtkegepoihkhihaaGreat

set_option maxHeartbeats 1000000
namespace Go.M
open Go.AV
end Go.M
namespace Go.Proofs.YtkegepoihkhihaaGreat
open Go Go.AV Go.M
attribute [local irreducible] OpW OpA OpS AWP FSpec ESpec GSpec OpE RetOk RetOkG RvDen Le Ev GuardIs SrcIs
end Go.Proofs.YtkegepoihkhihaaGreat

namespace Go.M
open Go.AV
structure TCur where
  p : Nat
  seed : Int
end Go.M

namespace Go.Proofs.YtkegepoihkhihaaGreat
open Go Go.AV Go.M
attribute [local irreducible] OpW OpA OpS AWP FSpec ESpec GSpec OpE RetOk RetOkG RvDen Le Ev GuardIs SrcIs Int.tmod IntKind.wrap bandI
end Go.Proofs.YtkegepoihkhihaaGreat

namespace Go.Proofs.YtkegepoihkhihaaGreat
open Go Go.AV Go.M
attribute [local irreducible] OpW OpA OpS AWP FSpec ESpec GSpec OpE RetOk RetOkG RvDen Le Ev GuardIs SrcIs
end Go.Proofs.YtkegepoihkhihaaGreat

namespace Go.Proofs.YtkegepoihkhihaaGreat
open Go Go.AV Go.M
attribute [local irreducible] OpW OpA OpS AWP FSpec ESpec GSpec OpE RetOk RetOkG RvDen Le Ev GuardIs SrcIs Int.tmod Int.tdiv IntKind.wrap bandI
end Go.Proofs.YtkegepoihkhihaaGreat

namespace Go.Proofs.YtkegepoihkhihaaGreat
open Go Go.AV Go.M
attribute [local irreducible] OpW OpA OpS AWP FSpec ESpec GSpec OpE RetOk RetOkG RvDen Le Ev GuardIs SrcIs Int.tmod Int.tdiv IntKind.wrap
theorem o6 (n : Int) : FSpec Tryz.prog 93 [AV.int n] (AV.bool (isTxnR n)) := by
 refine D0 Tryz.func93 rfl Tryz.ntmps93 rfl ?_
 refine A3 (A2 ?_)
 refine A1 rfl (A7 rfl E2) ?_
 refine A4 (A3 (A2 ?_))
 refine A5 rfl ?_
 refine A1 rfl (D8 rfl Tryz.call82 rfl (W9 _ _ _) (A8 (A0 rfl) (A8 B4 (A8 B4 C8)))) ?_
 refine B1 rfl ?_
 refine A4 ?_
 refine B8 ?_
 exact E4 rfl (B7 rfl (by rfl))
theorem e9 (t : Int) : FSpec Tryz.prog 161 [AV.int t] (AV.bool (within t 1 100000)) := by
 refine D0 Tryz.func161 rfl Tryz.ntmps161 rfl ?_
 refine A3 (A2 ?_)
 refine A1 rfl (A7 rfl E2) ?_
 refine A4 (A3 (A2 ?_))
 refine A5 rfl ?_
 refine A1 rfl (D8 rfl Tryz.call39 rfl (R9 _ _ _) (A8 (A0 rfl) (A8 B4 (A8 B4 C8)))) ?_
 refine B1 rfl ?_
 refine A4 ?_
 refine B8 ?_
 exact E4 rfl (B7 rfl (by first | rfl | (refine congrArg AV.bool ?_; simp_all; done)))
theorem AW8 {r : TRec} (hs : r.size ≤ 1048576) : (∀ k ∈ r.Reads, k.length ≤ 4611686018427387904) ∧ sizeL TWrite.size r.Writes ≤ 1048576 ∧ r.Reads.length ≤ 1048576 ∧ r.Writes.length ≤ 1048576 := by
  unfold TRec.size at hs
  have h1 := L4 (f := fun x : Str => x.length) (l := r.Reads)
  have h2 := L4 (f := TWrite.size) (l := r.Writes)
  exact ⟨fun k hk => by have := k6 (f := fun x : Str => x.length) hk; omega, by omega, by omega, by omega⟩
theorem Af4 (r : TRec) (hs : r.size ≤ 1048576) : FSpec Tryz.prog 136 [AV.agg r.cs] (AV.bool (goodRec r)) := by
 obtain ⟨hr1, hr2, hr3, hr4⟩ := AW8 hs
 refine D0 Tryz.func136 rfl Tryz.ntmps136 rfl ?_
 refine A3 (A2 ?_)
 refine I6 rfl rfl rfl rfl (A0 rfl) ?_
 intro b1
 refine A1 rfl (A7 rfl E2) ?_
 refine A4 (A3 (A2 ?_))
 refine A1 rfl (B5 3 rfl E0 rfl B9 (A0 rfl) rfl) ?_
 refine A1 rfl (B2 0 rfl (A0 rfl) rfl D1 rfl) ?_
 refine A1 rfl (R4 rfl (A0 rfl) B4) ?_
 refine A5 rfl ?_
 refine D4 rfl (fun hc => B5 4 rfl E0 rfl L0 (A0 rfl) rfl) ?_
 refine D4 rfl (fun hc => B2 0 rfl (A9 rfl hc) rfl N4 rfl) ?_
 refine D4 rfl (fun hc => E7 rfl D6 (A9 rfl hc)) ?_
 refine D4 rfl (fun hc => R4 rfl (A9 rfl hc) B4) ?_
 refine A1 rfl (I1 rfl (A0 rfl) (F6 rfl)) ?_
 refine A5 rfl ?_
 refine D4 rfl (fun hc => B5 5 rfl E0 rfl J6 (A0 rfl) rfl) ?_
 refine D4 rfl (fun hc => B2 0 rfl (A9 rfl hc) rfl K6 rfl) ?_
 refine D4 rfl (fun hc => E7 rfl F0 (A9 rfl hc)) ?_
 refine D4 rfl (fun hc => R4 rfl (A9 rfl hc) B4) ?_
 refine A1 rfl (I1 rfl (A0 rfl) (F6 rfl)) ?_
 refine B1 rfl ?_
 refine A4 (A3 (A3 (A2 ?_)))
 refine A1 rfl (B5 0 rfl E0 rfl B9 (A0 rfl) rfl) ?_
 refine A1 rfl (B2 0 rfl (A0 rfl) rfl D1 rfl) ?_
 refine A4 (C3 (A3 (A2 ?_)))
 refine A1 rfl (R4 rfl (A0 rfl) B4) ?_
 refine B1 rfl ?_
 refine A4 ?_
 refine C0 (A0 rfl) ?_ ?_
 ·intro h21
  have k21 := U2 h21; try simp only [A6] at k21
  refine A3 (A2 ?_)
  refine A1 rfl (B5 1 rfl E0 rfl B9 (A0 rfl) rfl) ?_
  refine A1 rfl (B2 0 rfl (A0 rfl) rfl D1 rfl) ?_
  refine A1 rfl (D8 rfl Tryz.call93 rfl (o6 _) (A8 (A0 rfl) C8)) ?_
  refine A5 rfl ?_
  refine D4 rfl (fun hc => B5 2 rfl E0 rfl B9 (A0 rfl) rfl) ?_
  refine D4 rfl (fun hc => B2 0 rfl (A9 rfl hc) rfl D1 rfl) ?_
  refine D4 rfl (fun hc => D8 rfl Tryz.call111 rfl (c6 _) (A8 (A9 rfl hc) C8)) ?_
  refine A1 rfl (I1 rfl (A0 rfl) (F6 rfl)) ?_
  refine A5 rfl ?_
  refine D4 rfl (fun hc => B5 3 rfl E0 rfl B9 (A0 rfl) rfl) ?_
  refine D4 rfl (fun hc => B2 0 rfl (A9 rfl hc) rfl D1 rfl) ?_
  refine D4 rfl (fun hc => D8 rfl Tryz.call82 rfl (W9 _ _ _) (A8 (A9 rfl hc) (A8 B4 (A8 B4 C8)))) ?_
  refine A1 rfl (I1 rfl (A0 rfl) (F6 rfl)) ?_
  refine A5 rfl ?_
  refine D4 rfl (fun hc => B5 4 rfl E0 rfl L0 (A0 rfl) rfl) ?_
  refine D4 rfl (fun hc => B2 0 rfl (A9 rfl hc) rfl N4 rfl) ?_
  refine D4 rfl (fun hc => E7 rfl D6 (A9 rfl hc)) ?_
  refine D4 rfl (fun hc => S3 rfl (A9 rfl hc) B4) ?_
  refine A1 rfl (I1 rfl (A0 rfl) (F6 rfl)) ?_
  refine A5 rfl ?_
  refine D4 rfl (fun hc => B5 4 rfl E0 rfl L0 (A0 rfl) rfl) ?_
  refine D4 rfl (fun hc => B2 0 rfl (A9 rfl hc) rfl N4 rfl) ?_
  refine D4 rfl (fun hc => D8 rfl Tryz.call119 rfl (n9 r.Reads hr1) (A8 (A9 rfl hc) C8)) ?_
  refine A1 rfl (I1 rfl (A0 rfl) (F6 rfl)) ?_
  refine A5 rfl ?_
  refine D4 rfl (fun hc => B5 5 rfl E0 rfl J6 (A0 rfl) rfl) ?_
  refine D4 rfl (fun hc => B2 0 rfl (A9 rfl hc) rfl K6 rfl) ?_
  refine D4 rfl (fun hc => E7 rfl F0 (A9 rfl hc)) ?_
  refine D4 rfl (fun hc => S3 rfl (A9 rfl hc) B4) ?_
  refine A1 rfl (I1 rfl (A0 rfl) (F6 rfl)) ?_
  refine A5 rfl ?_
  refine D4 rfl (fun hc => B5 5 rfl E0 rfl J6 (A0 rfl) rfl) ?_
  refine D4 rfl (fun hc => B2 0 rfl (A9 rfl hc) rfl K6 rfl) ?_
  refine D4 rfl (fun hc => D8 rfl Tryz.call185 rfl (AP1 r.Writes (by omega)) (A8 (A9 rfl hc) C8)) ?_
  refine A1 rfl (I1 rfl (A0 rfl) (F6 rfl)) ?_
  refine A5 rfl ?_
  refine D4 rfl (fun hc => B5 4 rfl E0 rfl L0 (A0 rfl) rfl) ?_
  refine D4 rfl (fun hc => B2 0 rfl (A9 rfl hc) rfl N4 rfl) ?_
  refine D4 rfl (fun hc => E7 rfl D6 (A9 rfl hc)) ?_
  refine D4 rfl (fun hc => B5 5 rfl E0 rfl J6 (A0 rfl) rfl) ?_
  refine D4 rfl (fun hc => B2 0 rfl (A9 rfl hc) rfl K6 rfl) ?_
  refine D4 rfl (fun hc => E7 rfl F0 (A9 rfl hc)) ?_
  refine D4 rfl (fun hc => E9 rfl (A9 rfl hc) (A9 rfl hc) (by first | omega | ((try simp only [D3, B0, szR] at *); omega) | (have hc2 := hc; simp only [P3, beq_iff_eq, bne_iff_ne, A6, F8] at hc2; omega))) ?_
  refine D4 rfl (fun hc => S4 rfl (A9 rfl hc) B4) ?_
  refine A1 rfl (I1 rfl (A0 rfl) (F6 rfl)) ?_
  refine A5 rfl ?_
  refine D4 rfl (fun hc => B5 6 rfl E0 rfl G3 (A0 rfl) rfl) ?_
  refine D4 rfl (fun hc => B2 0 rfl (A9 rfl hc) rfl I9 rfl) ?_
  refine D4 rfl (fun hc => J3 rfl (A9 rfl hc)) ?_
  refine A1 rfl (I1 rfl (A0 rfl) (F6 rfl)) ?_
  refine B1 rfl ?_
  refine A4 ?_
  refine B8 ?_
  exact E4 rfl (B7 rfl (by first | (exfalso; omega) | exact congrArg AV.bool (by unfold goodRec good1 good2 good4 bareR; simp [*])))
 intro h21
 have k21 := U1 h21; try simp only [A6] at k21
 refine A3 (A3 (A2 ?_))
 refine A1 rfl (R4 rfl (A0 rfl) B4) ?_
 refine B1 rfl ?_
 refine A4 ?_
 refine C0 (A0 rfl) ?_ ?_
 ·intro h73
  have k73 := U2 h73; try simp only [A6] at k73
  refine C1 ?_
  refine C0 (A0 rfl) ?_ ?_
  ·intro h73
   have k73 := U2 h73; try simp only [A6] at k73
   refine A3 (A2 ?_)
   refine A5 rfl ?_
   refine A5 rfl ?_
   refine D4 rfl (fun hc => B5 1 rfl E0 rfl B9 (A0 rfl) rfl) ?_
   refine D4 rfl (fun hc => B2 0 rfl (A9 rfl hc) rfl D1 rfl) ?_
   refine D4 rfl (fun hc => D8 rfl Tryz.call93 rfl (o6 _) (A8 (A9 rfl hc) C8)) ?_
   refine A1 rfl (I1 rfl (A0 rfl) (F6 rfl)) ?_
   refine A5 rfl ?_
   refine D4 rfl (fun hc => B5 6 rfl E0 rfl G3 (A0 rfl) rfl) ?_
   refine D4 rfl (fun hc => B2 0 rfl (A9 rfl hc) rfl I9 rfl) ?_
   refine D4 rfl (fun hc => C4 rfl (A9 rfl hc)) ?_
   refine H9 rfl rfl (D9 rfl rfl rfl) (fun hc => B5 2 rfl E0 rfl B9 (A0 rfl) rfl) ?_
   refine H9 rfl rfl (D9 rfl rfl rfl) (fun hc => B2 0 rfl (A9 rfl hc) rfl D1 rfl) ?_
   refine H9 rfl rfl (D9 rfl rfl rfl) (fun hc => D8 rfl Tryz.call111 rfl (c6 _) (A8 (A9 rfl hc) C8)) ?_
   refine D4 rfl (fun hc => I1 rfl (A9 rfl hc) (O2 rfl hc)) ?_
   refine D4 rfl (fun hc => C4 rfl (A9 rfl hc)) ?_
   refine H9 rfl rfl (N0 rfl rfl rfl) (fun hc => B5 6 rfl E0 rfl G3 (A0 rfl) rfl) ?_
   refine H9 rfl rfl (N0 rfl rfl rfl) (fun hc => B2 0 rfl (A9 rfl hc) rfl I9 rfl) ?_
   refine H9 rfl rfl (N0 rfl rfl rfl) (fun hc => J3 rfl (A9 rfl hc)) ?_
   refine H9 rfl rfl (N0 rfl rfl rfl) (fun hc => C4 rfl (A9 rfl hc)) ?_
   refine H9 rfl rfl (D9 rfl rfl rfl) (fun hc => B5 2 rfl E0 rfl B9 (A0 rfl) rfl) ?_
   refine H9 rfl rfl (D9 rfl rfl rfl) (fun hc => B2 0 rfl (A9 rfl hc) rfl D1 rfl) ?_
   refine H9 rfl rfl (D9 rfl rfl rfl) (fun hc => R4 rfl (A9 rfl hc) B4) ?_
   refine H9 rfl rfl (N0 rfl rfl rfl) (fun hc => I1 rfl (A9 rfl hc) (O2 rfl hc)) ?_
   refine D4 rfl (fun hc => P4 rfl (A9 rfl hc) (O2 rfl hc)) ?_
   refine A1 rfl (I1 rfl (A0 rfl) (F6 rfl)) ?_
   refine B1 rfl ?_
   refine A4 ?_
   refine B8 ?_
   exact E4 rfl (B7 rfl (by first | (exfalso; omega) | exact congrArg AV.bool (by unfold goodRec good1 good2 good4 bareR; simp [*])))
  intro h73
  have k73 := U1 h73; try simp only [A6] at k73
  refine A3 (A2 ?_)
  refine A1 rfl (R4 rfl (A0 rfl) B4) ?_
  refine B1 rfl ?_
  refine A4 ?_
  refine C0 (A0 rfl) ?_ ?_
  ·intro h101
   have k101 := U2 h101; try simp only [A6] at k101
   refine A3 (A2 ?_)
   refine A5 rfl ?_
   refine A5 rfl ?_
   refine D4 rfl (fun hc => B5 1 rfl E0 rfl B9 (A0 rfl) rfl) ?_
   refine D4 rfl (fun hc => B2 0 rfl (A9 rfl hc) rfl D1 rfl) ?_
   refine D4 rfl (fun hc => R4 rfl (A9 rfl hc) B4) ?_
   refine A1 rfl (I1 rfl (A0 rfl) (F6 rfl)) ?_
   refine A5 rfl ?_
   refine D4 rfl (fun hc => B5 2 rfl E0 rfl B9 (A0 rfl) rfl) ?_
   refine D4 rfl (fun hc => B2 0 rfl (A9 rfl hc) rfl D1 rfl) ?_
   refine D4 rfl (fun hc => D8 rfl Tryz.call111 rfl (c6 _) (A8 (A9 rfl hc) C8)) ?_
   refine A1 rfl (I1 rfl (A0 rfl) (F6 rfl)) ?_
   refine A5 rfl ?_
   refine D4 rfl (fun hc => B5 6 rfl E0 rfl G3 (A0 rfl) rfl) ?_
   refine D4 rfl (fun hc => B2 0 rfl (A9 rfl hc) rfl I9 rfl) ?_
   refine D4 rfl (fun hc => J3 rfl (A9 rfl hc)) ?_
   refine A1 rfl (I1 rfl (A0 rfl) (F6 rfl)) ?_
   refine B1 rfl ?_
   refine A4 ?_
   refine B8 ?_
   exact E4 rfl (B7 rfl (by first | (exfalso; omega) | exact congrArg AV.bool (by unfold goodRec good1 good2 good4 bareR; simp [*])))
  intro h101
  have k101 := U1 h101; try simp only [A6] at k101
  refine C1 (A3 (A2 ?_))
  refine A1 rfl (A7 rfl E2) ?_
  refine A4 ?_
  refine B8 ?_
  exact E4 rfl (B7 rfl (by first | (exfalso; omega) | exact congrArg AV.bool (by unfold goodRec good1 good2 good4 bareR; simp [*])))
 intro h73
 have k73 := U1 h73; try simp only [A6] at k73
 refine A2 ?_
 refine A1 rfl (R4 rfl (A0 rfl) B4) ?_
 refine B1 rfl ?_
 refine A4 ?_
 refine C0 (A0 rfl) ?_ ?_
 ·intro h73
  have k73 := U2 h73; try simp only [A6] at k73
  refine A3 (A2 ?_)
  refine A5 rfl ?_
  refine A5 rfl ?_
  refine D4 rfl (fun hc => B5 1 rfl E0 rfl B9 (A0 rfl) rfl) ?_
  refine D4 rfl (fun hc => B2 0 rfl (A9 rfl hc) rfl D1 rfl) ?_
  refine D4 rfl (fun hc => D8 rfl Tryz.call93 rfl (o6 _) (A8 (A9 rfl hc) C8)) ?_
  refine A1 rfl (I1 rfl (A0 rfl) (F6 rfl)) ?_
  refine A5 rfl ?_
  refine D4 rfl (fun hc => B5 6 rfl E0 rfl G3 (A0 rfl) rfl) ?_
  refine D4 rfl (fun hc => B2 0 rfl (A9 rfl hc) rfl I9 rfl) ?_
  refine D4 rfl (fun hc => C4 rfl (A9 rfl hc)) ?_
  refine H9 rfl rfl (D9 rfl rfl rfl) (fun hc => B5 2 rfl E0 rfl B9 (A0 rfl) rfl) ?_
  refine H9 rfl rfl (D9 rfl rfl rfl) (fun hc => B2 0 rfl (A9 rfl hc) rfl D1 rfl) ?_
  refine H9 rfl rfl (D9 rfl rfl rfl) (fun hc => D8 rfl Tryz.call111 rfl (c6 _) (A8 (A9 rfl hc) C8)) ?_
  refine D4 rfl (fun hc => I1 rfl (A9 rfl hc) (O2 rfl hc)) ?_
  refine D4 rfl (fun hc => C4 rfl (A9 rfl hc)) ?_
  refine H9 rfl rfl (N0 rfl rfl rfl) (fun hc => B5 6 rfl E0 rfl G3 (A0 rfl) rfl) ?_
  refine H9 rfl rfl (N0 rfl rfl rfl) (fun hc => B2 0 rfl (A9 rfl hc) rfl I9 rfl) ?_
  refine H9 rfl rfl (N0 rfl rfl rfl) (fun hc => J3 rfl (A9 rfl hc)) ?_
  refine H9 rfl rfl (N0 rfl rfl rfl) (fun hc => C4 rfl (A9 rfl hc)) ?_
  refine H9 rfl rfl (D9 rfl rfl rfl) (fun hc => B5 2 rfl E0 rfl B9 (A0 rfl) rfl) ?_
  refine H9 rfl rfl (D9 rfl rfl rfl) (fun hc => B2 0 rfl (A9 rfl hc) rfl D1 rfl) ?_
  refine H9 rfl rfl (D9 rfl rfl rfl) (fun hc => R4 rfl (A9 rfl hc) B4) ?_
  refine H9 rfl rfl (N0 rfl rfl rfl) (fun hc => I1 rfl (A9 rfl hc) (O2 rfl hc)) ?_
  refine D4 rfl (fun hc => P4 rfl (A9 rfl hc) (O2 rfl hc)) ?_
  refine A1 rfl (I1 rfl (A0 rfl) (F6 rfl)) ?_
  refine B1 rfl ?_
  refine A4 ?_
  refine B8 ?_
  exact E4 rfl (B7 rfl (by first | (exfalso; omega) | exact congrArg AV.bool (by unfold goodRec good1 good2 good4 bareR; simp [*])))
 intro h73
 have k73 := U1 h73; try simp only [A6] at k73
 refine A3 (A2 ?_)
 refine A1 rfl (R4 rfl (A0 rfl) B4) ?_
 refine B1 rfl ?_
 refine A4 ?_
 refine C0 (A0 rfl) ?_ ?_
 ·intro h101
  have k101 := U2 h101; try simp only [A6] at k101
  refine A3 (A2 ?_)
  refine A5 rfl ?_
  refine A5 rfl ?_
  refine D4 rfl (fun hc => B5 1 rfl E0 rfl B9 (A0 rfl) rfl) ?_
  refine D4 rfl (fun hc => B2 0 rfl (A9 rfl hc) rfl D1 rfl) ?_
  refine D4 rfl (fun hc => R4 rfl (A9 rfl hc) B4) ?_
  refine A1 rfl (I1 rfl (A0 rfl) (F6 rfl)) ?_
  refine A5 rfl ?_
  refine D4 rfl (fun hc => B5 2 rfl E0 rfl B9 (A0 rfl) rfl) ?_
  refine D4 rfl (fun hc => B2 0 rfl (A9 rfl hc) rfl D1 rfl) ?_
  refine D4 rfl (fun hc => D8 rfl Tryz.call111 rfl (c6 _) (A8 (A9 rfl hc) C8)) ?_
  refine A1 rfl (I1 rfl (A0 rfl) (F6 rfl)) ?_
  refine A5 rfl ?_
  refine D4 rfl (fun hc => B5 6 rfl E0 rfl G3 (A0 rfl) rfl) ?_
  refine D4 rfl (fun hc => B2 0 rfl (A9 rfl hc) rfl I9 rfl) ?_
  refine D4 rfl (fun hc => J3 rfl (A9 rfl hc)) ?_
  refine A1 rfl (I1 rfl (A0 rfl) (F6 rfl)) ?_
  refine B1 rfl ?_
  refine A4 ?_
  refine B8 ?_
  exact E4 rfl (B7 rfl (by first | (exfalso; omega) | exact congrArg AV.bool (by unfold goodRec good1 good2 good4 bareR; simp [*])))
 intro h101
 have k101 := U1 h101; try simp only [A6] at k101
 refine C1 (A3 (A2 ?_))
 refine A1 rfl (A7 rfl E2) ?_
 refine A4 ?_
 refine B8 ?_
 exact E4 rfl (B7 rfl (by first | (exfalso; omega) | exact congrArg AV.bool (by unfold goodRec good1 good2 good4 bareR; simp [*])))
theorem Ak5 (l : List Str) (hs : ∀ k ∈ l, k.length ≤ 4611686018427387904) : FSpec Tryz.prog 162 [strs l] (AV.bool (l4Keys l)) := by
 refine D0 Tryz.func162 rfl Tryz.ntmps162 rfl ?_
 refine M6 (t := 0) rfl fun hl => ?_
 try simp only [A6] at hl
 refine A3 (A2 ?_)
 refine A1 rfl (A7 rfl E2) ?_
 refine A4 (A3 (A3 (A2 ?_)))
 refine A5 rfl ?_
 refine A1 rfl (E7 rfl D6 (A0 rfl)) ?_
 refine A1 rfl (C4 rfl B4) ?_
 refine A4 (C3 ?_)
 refine G4 [(0, _), (5, _), (6, _)] _ (fun (i : Nat) => i ≤ l.length ∧ (l.all l3Key && adj Op.bytesLess l) = ((l.drop i).all l3Key && adj Op.bytesLess (l.drop (i - 1)))) (fun (i : Nat) => []) (fun (i : Nat) => [(7, AV.int i)]) (fun (i : Nat) => l.length - i) (0) ?_ (G6 ⟨rfl, rfl, rfl, rfl, trivial⟩) ?_
 ·exact ⟨Nat.zero_le _, rfl⟩
 intro i hinv
 refine A3 (A2 ?_)
 refine A1 rfl (F7 rfl (A0 rfl) (A0 rfl)) ?_
 refine A4 (A3 ?_)
 refine C0 (A0 rfl) ?_ ?_
 ·intro h8
  have k8 := of_decide_eq_true h8; try simp only [A6] at k8
  have hlt : i < l.length := by omega
  obtain ⟨x, hx⟩ := get_some hlt
  obtain ⟨y, hy⟩ := get_some (show i - 1 < l.length by omega)
  have hsx := hs x (H5 hx)
  refine C1 (A3 (C3 (A3 (A2 ?_))))
  refine A5 rfl ?_
  refine A1 rfl (N5 rfl D6 D2 (A0 rfl) (A0 rfl) (by omega) (by simp only [Int.toNat_natCast, List.getElem?_map, hx, Option.map_some]; try rfl)) ?_
  refine A1 rfl (K1 rfl (A0 rfl) E6 rfl) ?_
  refine B1 rfl ?_
  refine B1 rfl ?_
  refine A4 (A3 (A2 ?_))
  refine A5 rfl ?_
  refine A1 rfl (D8 rfl Tryz.call198 rfl (AC2 _ (by omega)) (A8 (A0 rfl) C8)) ?_
  refine A1 rfl (J3 rfl (A0 rfl)) ?_
  refine A5 rfl ?_
  refine I3 rfl (fun hc => C4 rfl (A0 rfl)) ?_
  refine I3 rfl (fun hc => S4 rfl (A9 rfl hc) B4) ?_
  refine I3 rfl (fun hc => C4 rfl (A9 rfl hc)) ?_
  refine H9 rfl rfl (D9 rfl rfl rfl) (fun hc => C4 rfl (A0 rfl)) ?_
  refine H9 rfl rfl (D9 rfl rfl rfl) (fun hc => C4 rfl (A0 rfl)) ?_
  refine H9 rfl rfl (D9 rfl rfl rfl) (fun hc => O8 rfl (A9 rfl hc) B4 (by first | omega | ((try simp only [D3, B0, szR] at *); omega) | (have hc2 := hc; simp only [P3, beq_iff_eq, bne_iff_ne, A6, F8] at hc2; omega))) ?_
  refine H9 rfl rfl (D9 rfl rfl rfl) (fun hc => N5 rfl D6 D2 (A9 rfl hc) (A9 rfl hc) (by have := of_decide_eq_true (Aa5 hc); omega) (by have := of_decide_eq_true (Aa5 hc); rw [show ((i : Int) - 1).toNat = i - 1 by omega]; simp only [List.getElem?_map, hy, Option.map_some]; try rfl)) ?_
  refine H9 rfl rfl (D9 rfl rfl rfl) (fun hc => K1 rfl (A9 rfl hc) E6 rfl) ?_
  refine H9 rfl rfl (D9 rfl rfl rfl) (fun hc => C4 rfl (A0 rfl)) ?_
  refine H9 rfl rfl (D9 rfl rfl rfl) (fun hc => Ab1 rfl (A9 rfl hc) (A9 rfl hc)) ?_
  refine I3 rfl (fun hc => I1 rfl (A9 rfl hc) (O2 rfl hc)) ?_
  refine A1 rfl (P4 rfl (A0 rfl) (F6 rfl)) ?_
  refine A4 ?_
  refine C0 (A0 rfl) ?_ ?_
  ·intro h27
   have hfin : (l.all l3Key && adj Op.bytesLess l) = false := by rw [hinv.2, drop_some hx, List.all_cons]; cases hg : l3Key x with | false => simp | true => (simp only [hg, Bool.not_true, Bool.false_or, Bool.and_eq_true, decide_eq_true_eq, Bool.not_eq_true'] at h27; rw [d8 hx hy (by omega) h27.2]; simp)
   refine A3 (A2 ?_)
   refine A1 rfl (A7 rfl E2) ?_
   refine A4 ?_
   refine B8 ?_
   exact E4 rfl (B7 rfl (by first | exact congrArg AV.bool (by unfold l4Keys; rw [hfin]; rfl) | exact congrArg AV.bool (by unfold l4Keys; rw [hinv.2, U4 hge, List.drop_eq_nil_of_le hge]; simp)))
  intro h27
  refine C1 (A2 ?_)
  refine A1 rfl (E9 rfl (A0 rfl) B4 (by first | omega | (simp only [D3, B0, szR] at *; omega))) ?_
  refine A5 rfl ?_
  refine A4 ?_
  refine H6 i (i + 1) ?_ ?_ (G6 ⟨rfl, rfl, rfl, rfl, trivial⟩)
  ·exact ⟨by omega, by rw [hinv.2, drop_some hx, List.all_cons, d7 hx hy (fun h0 => by simp_all), show l3Key x = true by simp_all, Bool.true_and]⟩
  omega
 intro h8
 have k8 := of_decide_eq_false h8; try simp only [A6] at k8
 have hge : l.length ≤ i := by omega
 refine F1 ?_
 refine A3 (A2 ?_)
 refine A5 rfl ?_
 refine A1 rfl (E7 rfl D6 (A0 rfl)) ?_
 refine A1 rfl (S3 rfl (A0 rfl) B4) ?_
 refine B1 rfl ?_
 refine A4 ?_
 refine B8 ?_
 exact E4 rfl (B7 rfl (by first | exact congrArg AV.bool (by unfold l4Keys; rw [hfin]; rfl) | exact congrArg AV.bool (by unfold l4Keys; rw [hinv.2, U4 hge, List.drop_eq_nil_of_le hge]; simp)))
theorem Ak6 (r : TRec) (hs : r.size ≤ 1048576) : FSpec Tryz.prog 106 [AV.agg r.cs] (AV.bool (l4Good r)) := by
 obtain ⟨hr1, hr2, hr3, hr4⟩ := AW8 hs
 refine D0 Tryz.func106 rfl Tryz.ntmps106 rfl ?_
 refine A3 (A2 ?_)
 refine I6 rfl rfl rfl rfl (A0 rfl) ?_
 intro b1
 refine A1 rfl (A7 rfl E2) ?_
 refine A4 (A3 (A3 (A2 ?_)))
 refine A1 rfl (B5 0 rfl E0 rfl B9 (A0 rfl) rfl) ?_
 refine A1 rfl (B2 0 rfl (A0 rfl) rfl D1 rfl) ?_
 refine A1 rfl (S2 rfl (A0 rfl) B4) ?_
 refine A5 rfl ?_
 refine D4 rfl (fun hc => B5 3 rfl E0 rfl B9 (A0 rfl) rfl) ?_
 refine D4 rfl (fun hc => B2 0 rfl (A9 rfl hc) rfl D1 rfl) ?_
 refine D4 rfl (fun hc => S2 rfl (A9 rfl hc) B4) ?_
 refine D4 rfl (fun hc => C4 rfl (A9 rfl hc)) ?_
 refine H9 rfl rfl (N0 rfl rfl rfl) (fun hc => B5 4 rfl E0 rfl L0 (A0 rfl) rfl) ?_
 refine H9 rfl rfl (N0 rfl rfl rfl) (fun hc => B2 0 rfl (A9 rfl hc) rfl N4 rfl) ?_
 refine H9 rfl rfl (N0 rfl rfl rfl) (fun hc => E7 rfl D6 (A9 rfl hc)) ?_
 refine H9 rfl rfl (N0 rfl rfl rfl) (fun hc => B5 5 rfl E0 rfl J6 (A0 rfl) rfl) ?_
 refine H9 rfl rfl (N0 rfl rfl rfl) (fun hc => B2 0 rfl (A9 rfl hc) rfl K6 rfl) ?_
 refine H9 rfl rfl (N0 rfl rfl rfl) (fun hc => E7 rfl F0 (A9 rfl hc)) ?_
 refine H9 rfl rfl (N0 rfl rfl rfl) (fun hc => E9 rfl (A9 rfl hc) (A9 rfl hc) (by first | omega | ((try simp only [D3, B0, szR] at *); omega) | (have hc2 := hc; simp only [P3, beq_iff_eq, bne_iff_ne, A6, F8] at hc2; omega))) ?_
 refine H9 rfl rfl (N0 rfl rfl rfl) (fun hc => S4 rfl (A9 rfl hc) B4) ?_
 refine D4 rfl (fun hc => P4 rfl (A9 rfl hc) (O2 rfl hc)) ?_
 refine A1 rfl (I1 rfl (A0 rfl) (F6 rfl)) ?_
 refine A4 ?_
 refine C0 (A0 rfl) ?_ ?_
 ·intro h20
  have ho : oddR r = true := by (unfold oddR; simpa using h20)
  refine A3 (A2 ?_)
  refine A1 rfl (A7 rfl E2) ?_
  refine A4 ?_
  refine B8 ?_
  exact E4 rfl (B7 rfl (by first | (exfalso; omega) | exact congrArg AV.bool (by unfold l4Good; rw [ho]; first | rfl | (unfold l4G1 l4G2 l4G4; simp [*]))))
 intro h20
 have ho : oddR r = false := by (unfold oddR; simpa using h20)
 refine C1 (A3 (A3 (A2 ?_)))
 refine A1 rfl (B5 0 rfl E0 rfl B9 (A0 rfl) rfl) ?_
 refine A1 rfl (B2 0 rfl (A0 rfl) rfl D1 rfl) ?_
 refine A4 (C3 (A3 (A2 ?_)))
 refine A1 rfl (R4 rfl (A0 rfl) B4) ?_
 refine B1 rfl ?_
 refine A4 ?_
 refine C0 (A0 rfl) ?_ ?_
 ·intro h23
  have k23 := U2 h23; try simp only [A6] at k23
  refine A3 (A2 ?_)
  refine A1 rfl (B5 1 rfl E0 rfl B9 (A0 rfl) rfl) ?_
  refine A1 rfl (B2 0 rfl (A0 rfl) rfl D1 rfl) ?_
  refine A1 rfl (D8 rfl Tryz.call39 rfl (R9 _ _ _) (A8 (A0 rfl) (A8 B4 (A8 B4 C8)))) ?_
  refine A5 rfl ?_
  refine D4 rfl (fun hc => B5 2 rfl E0 rfl B9 (A0 rfl) rfl) ?_
  refine D4 rfl (fun hc => B2 0 rfl (A9 rfl hc) rfl D1 rfl) ?_
  refine D4 rfl (fun hc => D8 rfl Tryz.call161 rfl (e9 _) (A8 (A9 rfl hc) C8)) ?_
  refine A1 rfl (I1 rfl (A0 rfl) (F6 rfl)) ?_
  refine A5 rfl ?_
  refine D4 rfl (fun hc => B5 3 rfl E0 rfl B9 (A0 rfl) rfl) ?_
  refine D4 rfl (fun hc => B2 0 rfl (A9 rfl hc) rfl D1 rfl) ?_
  refine D4 rfl (fun hc => D8 rfl Tryz.call39 rfl (R9 _ _ _) (A8 (A9 rfl hc) (A8 B4 (A8 B4 C8)))) ?_
  refine A1 rfl (I1 rfl (A0 rfl) (F6 rfl)) ?_
  refine A5 rfl ?_
  refine D4 rfl (fun hc => B5 4 rfl E0 rfl L0 (A0 rfl) rfl) ?_
  refine D4 rfl (fun hc => B2 0 rfl (A9 rfl hc) rfl N4 rfl) ?_
  refine D4 rfl (fun hc => D8 rfl Tryz.call162 rfl (Ak5 r.Reads hr1) (A8 (A9 rfl hc) C8)) ?_
  refine A1 rfl (I1 rfl (A0 rfl) (F6 rfl)) ?_
  refine A5 rfl ?_
  refine D4 rfl (fun hc => B5 5 rfl E0 rfl J6 (A0 rfl) rfl) ?_
  refine D4 rfl (fun hc => B2 0 rfl (A9 rfl hc) rfl K6 rfl) ?_
  refine D4 rfl (fun hc => D8 rfl Tryz.call163 rfl (AY5 r.Writes (by omega)) (A8 (A9 rfl hc) C8)) ?_
  refine A1 rfl (I1 rfl (A0 rfl) (F6 rfl)) ?_
  refine A5 rfl ?_
  refine D4 rfl (fun hc => B5 5 rfl E0 rfl J6 (A0 rfl) rfl) ?_
  refine D4 rfl (fun hc => B2 0 rfl (A9 rfl hc) rfl K6 rfl) ?_
  refine D4 rfl (fun hc => E7 rfl F0 (A9 rfl hc)) ?_
  refine D4 rfl (fun hc => D8 rfl Tryz.call39 rfl (R9 _ _ _) (A8 (A9 rfl hc) (A8 B4 (A8 B4 C8)))) ?_
  refine A1 rfl (I1 rfl (A0 rfl) (F6 rfl)) ?_
  refine A5 rfl ?_
  refine D4 rfl (fun hc => B5 4 rfl E0 rfl L0 (A0 rfl) rfl) ?_
  refine D4 rfl (fun hc => B2 0 rfl (A9 rfl hc) rfl N4 rfl) ?_
  refine D4 rfl (fun hc => E7 rfl D6 (A9 rfl hc)) ?_
  refine D4 rfl (fun hc => B5 5 rfl E0 rfl J6 (A0 rfl) rfl) ?_
  refine D4 rfl (fun hc => B2 0 rfl (A9 rfl hc) rfl K6 rfl) ?_
  refine D4 rfl (fun hc => E7 rfl F0 (A9 rfl hc)) ?_
  refine D4 rfl (fun hc => E9 rfl (A9 rfl hc) (A9 rfl hc) (by first | omega | ((try simp only [D3, B0, szR] at *); omega) | (have hc2 := hc; simp only [P3, beq_iff_eq, bne_iff_ne, A6, F8] at hc2; omega))) ?_
  refine D4 rfl (fun hc => S4 rfl (A9 rfl hc) B4) ?_
  refine A1 rfl (I1 rfl (A0 rfl) (F6 rfl)) ?_
  refine A5 rfl ?_
  refine D4 rfl (fun hc => B5 6 rfl E0 rfl G3 (A0 rfl) rfl) ?_
  refine D4 rfl (fun hc => B2 0 rfl (A9 rfl hc) rfl I9 rfl) ?_
  refine D4 rfl (fun hc => J3 rfl (A9 rfl hc)) ?_
  refine A1 rfl (I1 rfl (A0 rfl) (F6 rfl)) ?_
  refine B1 rfl ?_
  refine A4 ?_
  refine B8 ?_
  exact E4 rfl (B7 rfl (by first | (exfalso; omega) | exact congrArg AV.bool (by unfold l4Good; rw [ho]; first | rfl | (unfold l4G1 l4G2 l4G4; simp [*]))))
 intro h23
 have k23 := U1 h23; try simp only [A6] at k23
 refine A3 (A3 (A2 ?_))
 refine A1 rfl (R4 rfl (A0 rfl) B4) ?_
 refine B1 rfl ?_
 refine A4 ?_
 refine C0 (A0 rfl) ?_ ?_
 ·intro h69
  have k69 := U2 h69; try simp only [A6] at k69
  refine C1 ?_
  refine C0 (A0 rfl) ?_ ?_
  ·intro h69
   have k69 := U2 h69; try simp only [A6] at k69
   refine A3 (A2 ?_)
   refine A1 rfl (B5 1 rfl E0 rfl B9 (A0 rfl) rfl) ?_
   refine A1 rfl (B2 0 rfl (A0 rfl) rfl D1 rfl) ?_
   refine A1 rfl (D8 rfl Tryz.call39 rfl (R9 _ _ _) (A8 (A0 rfl) (A8 B4 (A8 B4 C8)))) ?_
   refine A5 rfl ?_
   refine D4 rfl (fun hc => B5 6 rfl E0 rfl G3 (A0 rfl) rfl) ?_
   refine D4 rfl (fun hc => B2 0 rfl (A9 rfl hc) rfl I9 rfl) ?_
   refine D4 rfl (fun hc => C4 rfl (A9 rfl hc)) ?_
   refine H9 rfl rfl (D9 rfl rfl rfl) (fun hc => B5 2 rfl E0 rfl B9 (A0 rfl) rfl) ?_
   refine H9 rfl rfl (D9 rfl rfl rfl) (fun hc => B2 0 rfl (A9 rfl hc) rfl D1 rfl) ?_
   refine H9 rfl rfl (D9 rfl rfl rfl) (fun hc => D8 rfl Tryz.call161 rfl (e9 _) (A8 (A9 rfl hc) C8)) ?_
   refine D4 rfl (fun hc => I1 rfl (A9 rfl hc) (O2 rfl hc)) ?_
   refine D4 rfl (fun hc => C4 rfl (A9 rfl hc)) ?_
   refine H9 rfl rfl (N0 rfl rfl rfl) (fun hc => B5 6 rfl E0 rfl G3 (A0 rfl) rfl) ?_
   refine H9 rfl rfl (N0 rfl rfl rfl) (fun hc => B2 0 rfl (A9 rfl hc) rfl I9 rfl) ?_
   refine H9 rfl rfl (N0 rfl rfl rfl) (fun hc => J3 rfl (A9 rfl hc)) ?_
   refine H9 rfl rfl (N0 rfl rfl rfl) (fun hc => C4 rfl (A9 rfl hc)) ?_
   refine H9 rfl rfl (D9 rfl rfl rfl) (fun hc => B5 2 rfl E0 rfl B9 (A0 rfl) rfl) ?_
   refine H9 rfl rfl (D9 rfl rfl rfl) (fun hc => B2 0 rfl (A9 rfl hc) rfl D1 rfl) ?_
   refine H9 rfl rfl (D9 rfl rfl rfl) (fun hc => R4 rfl (A9 rfl hc) B4) ?_
   refine H9 rfl rfl (N0 rfl rfl rfl) (fun hc => I1 rfl (A9 rfl hc) (O2 rfl hc)) ?_
   refine D4 rfl (fun hc => P4 rfl (A9 rfl hc) (O2 rfl hc)) ?_
   refine A1 rfl (I1 rfl (A0 rfl) (F6 rfl)) ?_
   refine B1 rfl ?_
   refine A4 ?_
   refine B8 ?_
   exact E4 rfl (B7 rfl (by first | (exfalso; omega) | exact congrArg AV.bool (by unfold l4Good; rw [ho]; first | rfl | (unfold l4G1 l4G2 l4G4; simp [*]))))
  intro h69
  have k69 := U1 h69; try simp only [A6] at k69
  refine C1 (A3 (A2 ?_))
  refine A1 rfl (B5 0 rfl E0 rfl B9 (A0 rfl) rfl) ?_
  refine A1 rfl (B2 0 rfl (A0 rfl) rfl D1 rfl) ?_
  refine A1 rfl (R4 rfl (A0 rfl) B4) ?_
  refine A5 rfl ?_
  refine D4 rfl (fun hc => B5 1 rfl E0 rfl B9 (A0 rfl) rfl) ?_
  refine D4 rfl (fun hc => B2 0 rfl (A9 rfl hc) rfl D1 rfl) ?_
  refine D4 rfl (fun hc => R4 rfl (A9 rfl hc) B4) ?_
  refine A1 rfl (I1 rfl (A0 rfl) (F6 rfl)) ?_
  refine A5 rfl ?_
  refine D4 rfl (fun hc => B5 2 rfl E0 rfl B9 (A0 rfl) rfl) ?_
  refine D4 rfl (fun hc => B2 0 rfl (A9 rfl hc) rfl D1 rfl) ?_
  refine D4 rfl (fun hc => D8 rfl Tryz.call161 rfl (e9 _) (A8 (A9 rfl hc) C8)) ?_
  refine A1 rfl (I1 rfl (A0 rfl) (F6 rfl)) ?_
  refine A5 rfl ?_
  refine D4 rfl (fun hc => B5 6 rfl E0 rfl G3 (A0 rfl) rfl) ?_
  refine D4 rfl (fun hc => B2 0 rfl (A9 rfl hc) rfl I9 rfl) ?_
  refine D4 rfl (fun hc => J3 rfl (A9 rfl hc)) ?_
  refine A1 rfl (I1 rfl (A0 rfl) (F6 rfl)) ?_
  refine B1 rfl ?_
  refine A4 ?_
  refine B8 ?_
  exact E4 rfl (B7 rfl (by first | (exfalso; omega) | exact congrArg AV.bool (by unfold l4Good; rw [ho]; first | rfl | (unfold l4G1 l4G2 l4G4; simp [*]))))
 intro h69
 have k69 := U1 h69; try simp only [A6] at k69
 refine A2 ?_
 refine A1 rfl (R4 rfl (A0 rfl) B4) ?_
 refine B1 rfl ?_
 refine A4 ?_
 refine C0 (A0 rfl) ?_ ?_
 ·intro h69
  have k69 := U2 h69; try simp only [A6] at k69
  refine A3 (A2 ?_)
  refine A1 rfl (B5 1 rfl E0 rfl B9 (A0 rfl) rfl) ?_
  refine A1 rfl (B2 0 rfl (A0 rfl) rfl D1 rfl) ?_
  refine A1 rfl (D8 rfl Tryz.call39 rfl (R9 _ _ _) (A8 (A0 rfl) (A8 B4 (A8 B4 C8)))) ?_
  refine A5 rfl ?_
  refine D4 rfl (fun hc => B5 6 rfl E0 rfl G3 (A0 rfl) rfl) ?_
  refine D4 rfl (fun hc => B2 0 rfl (A9 rfl hc) rfl I9 rfl) ?_
  refine D4 rfl (fun hc => C4 rfl (A9 rfl hc)) ?_
  refine H9 rfl rfl (D9 rfl rfl rfl) (fun hc => B5 2 rfl E0 rfl B9 (A0 rfl) rfl) ?_
  refine H9 rfl rfl (D9 rfl rfl rfl) (fun hc => B2 0 rfl (A9 rfl hc) rfl D1 rfl) ?_
  refine H9 rfl rfl (D9 rfl rfl rfl) (fun hc => D8 rfl Tryz.call161 rfl (e9 _) (A8 (A9 rfl hc) C8)) ?_
  refine D4 rfl (fun hc => I1 rfl (A9 rfl hc) (O2 rfl hc)) ?_
  refine D4 rfl (fun hc => C4 rfl (A9 rfl hc)) ?_
  refine H9 rfl rfl (N0 rfl rfl rfl) (fun hc => B5 6 rfl E0 rfl G3 (A0 rfl) rfl) ?_
  refine H9 rfl rfl (N0 rfl rfl rfl) (fun hc => B2 0 rfl (A9 rfl hc) rfl I9 rfl) ?_
  refine H9 rfl rfl (N0 rfl rfl rfl) (fun hc => J3 rfl (A9 rfl hc)) ?_
  refine H9 rfl rfl (N0 rfl rfl rfl) (fun hc => C4 rfl (A9 rfl hc)) ?_
  refine H9 rfl rfl (D9 rfl rfl rfl) (fun hc => B5 2 rfl E0 rfl B9 (A0 rfl) rfl) ?_
  refine H9 rfl rfl (D9 rfl rfl rfl) (fun hc => B2 0 rfl (A9 rfl hc) rfl D1 rfl) ?_
  refine H9 rfl rfl (D9 rfl rfl rfl) (fun hc => R4 rfl (A9 rfl hc) B4) ?_
  refine H9 rfl rfl (N0 rfl rfl rfl) (fun hc => I1 rfl (A9 rfl hc) (O2 rfl hc)) ?_
  refine D4 rfl (fun hc => P4 rfl (A9 rfl hc) (O2 rfl hc)) ?_
  refine A1 rfl (I1 rfl (A0 rfl) (F6 rfl)) ?_
  refine B1 rfl ?_
  refine A4 ?_
  refine B8 ?_
  exact E4 rfl (B7 rfl (by first | (exfalso; omega) | exact congrArg AV.bool (by unfold l4Good; rw [ho]; first | rfl | (unfold l4G1 l4G2 l4G4; simp [*]))))
 intro h69
 have k69 := U1 h69; try simp only [A6] at k69
 refine C1 (A3 (A2 ?_))
 refine A1 rfl (B5 0 rfl E0 rfl B9 (A0 rfl) rfl) ?_
 refine A1 rfl (B2 0 rfl (A0 rfl) rfl D1 rfl) ?_
 refine A1 rfl (R4 rfl (A0 rfl) B4) ?_
 refine A5 rfl ?_
 refine D4 rfl (fun hc => B5 1 rfl E0 rfl B9 (A0 rfl) rfl) ?_
 refine D4 rfl (fun hc => B2 0 rfl (A9 rfl hc) rfl D1 rfl) ?_
 refine D4 rfl (fun hc => R4 rfl (A9 rfl hc) B4) ?_
 refine A1 rfl (I1 rfl (A0 rfl) (F6 rfl)) ?_
 refine A5 rfl ?_
 refine D4 rfl (fun hc => B5 2 rfl E0 rfl B9 (A0 rfl) rfl) ?_
 refine D4 rfl (fun hc => B2 0 rfl (A9 rfl hc) rfl D1 rfl) ?_
 refine D4 rfl (fun hc => D8 rfl Tryz.call161 rfl (e9 _) (A8 (A9 rfl hc) C8)) ?_
 refine A1 rfl (I1 rfl (A0 rfl) (F6 rfl)) ?_
 refine A5 rfl ?_
 refine D4 rfl (fun hc => B5 6 rfl E0 rfl G3 (A0 rfl) rfl) ?_
 refine D4 rfl (fun hc => B2 0 rfl (A9 rfl hc) rfl I9 rfl) ?_
 refine D4 rfl (fun hc => J3 rfl (A9 rfl hc)) ?_
 refine A1 rfl (I1 rfl (A0 rfl) (F6 rfl)) ?_
 refine B1 rfl ?_
 refine A4 ?_
 refine B8 ?_
 exact E4 rfl (B7 rfl (by first | (exfalso; omega) | exact congrArg AV.bool (by unfold l4Good; rw [ho]; first | rfl | (unfold l4G1 l4G2 l4G4; simp [*]))))
end Go.Proofs.YtkegepoihkhihaaGreat

namespace Go.AV
open Go.RowKit (Below)
section
variable {P : Program} {G : Nat → Prop} {n : Nat} {own : List Own} {o : Oper} {E : EnvF}
theorem w_tlen {t e : TypeId} {p : Operand} {v : Value} {sz lo : Nat} {es : List (List AV)} (i : Nat) (ho : o.op = .call { callee := .builtin .len, args := #[p], argTypes := #[t] }) (ht : P.underlying t = some (.slice e)) (hp : Ev E p (AV.is (tailV lo sz v))) (hi : own[i]? = some (.arr v e sz es)) : OpW P G n own o E (AV.int ((es.length - lo : Nat) : Int)) := U8 fun w0 R0 R a w hcore he => by
  have h1 : a.eval p = _ := H3 hp (by simp [ho, Op.operands, Call.operands]) he
  obtain ⟨_, _, xs, hown, _⟩ := hcore.owned _ (H5 hi)
  obtain ⟨oa, c, rfl, _⟩ := n1 hown
  have hel : P.elem t = e := by simp [Program.elem, ht]
  have h2 := fun (b : Option Addr) => run_len_slice (P := P) w t o.type b (es.length - lo) (c - lo) (by rw [hel]; exact ht)
  exact ⟨.int .i64 (es.length - lo : Nat), by simp only [execOp, ho, resolve, invoke, builtin, List.map_toArray, List.map_cons, List.map_nil, h1, tailV, sliced, h2, Sem.run_bind, Sem.run_pure, Result.andThen_ok, goInt], rfl⟩
theorem Af5 {t e : TypeId} {p q : Operand} {v : Value} {sz lo : Nat} {es : List (List AV)} {k : Int} (i : Nat) (ho : o.op = .indexAddr t p q) (ht : P.underlying t = some (.slice e)) (hsz : ∀ w, (sizeOf e).run P w = .ok sz w) (hp : Ev E p (AV.is (tailV lo sz v))) (hi : own[i]? = some (.arr v e sz es)) (hq : Ev E q (AV.int k)) (h0 : 0 ≤ k) (hk : lo + k < es.length) :
    OpW P G n own o E (AV.is (elemPtr v ((lo + k.toNat) * sz))) := U8 fun w0 R0 R a w hcore he => by
  have h1 : a.eval p = _ := H3 hp (by simp [ho, Op.operands]) he
  have h2 : a.eval q = .int .i64 k := H3 hq (by simp [ho, Op.operands]) he
  obtain ⟨_, _, xs, hown, _⟩ := hcore.owned _ (H5 hi)
  rcases hown.2 with ⟨rfl, hz⟩ | ⟨g, cap, cur, rfl, _, _, hn, _⟩
  · rw [hz] at hk; simp at hk; omega
  · have hel : P.elem t = e := by simp [Program.elem, ht]
    have hne : ¬ cap = lo := by omega
    have hk2 : k < ((es.length - lo : Nat) : Int) := by omega
    have h3 := run_indexAt_slice (P := P) w t ((⟨g, 0, none⟩ : Addr).add (lo * sz)) (es.length - lo) (cap - lo) .i64 k (by rw [hel]; exact ht)
    rw [if_pos ⟨h0, hk2⟩, hel, hsz, Result.andThen_ok] at h3
    have e : (lo + k.toNat) * sz = lo * sz + k.toNat * sz := Nat.add_mul _ _ _
    refine ⟨.pointer (some (Addr.add ((⟨g, 0, none⟩ : Addr).add (lo * sz)) (k.toNat * sz))), by simp only [execOp, ho, h1, h2, tailV, sliced, if_neg hne, Option.map_some, h3, Sem.run_bind, Sem.run_pure, Result.andThen_ok], ?_⟩
    rw [e]
    show Value.pointer _ = Value.pointer (some (Addr.add ⟨g, 0, none⟩ (lo * sz + k.toNat * sz)))
    simp only [Z6, Nat.zero_add]
def SrcE (own : List Own) (E : EnvF) (q : Operand) (sz : Nat) (fs : List (List AV)) : Prop :=
  ∀ (G : Nat → Prop) (w0 : World) (R0 R : RHeap) (a : Act) (w : World), Core G w0 R0 own R w → (∀ t, q = .tmp t → ∀ y, E t = some y → y.den R (a.tmps.getD t undef)) →
    (∀ f ∈ fs, f.length = sz) ∧ ∃ oa cap vs, a.eval q = .slice oa fs.length cap ∧ (fs ≠ [] → ∃ ad, oa = some ad ∧ (∀ j u, vs[j]? = some u → w.cell? (ad.add j) = some u) ∧ DenC R vs fs.flatten)
def headV (k sz : Nat) : Value → Value
  | .slice a _ c => sliced a 0 k c sz
  | v => v
theorem Av9 {q : Operand} {v : Value} {k : Nat} {e : TypeId} {sz : Nat} {es : List (List AV)} (i : Nat) (hi : own[i]? = some (.arr v e sz es)) (hq : Ev E q (AV.is (tailV k sz v))) (hk : k ≤ es.length) : SrcE own E q sz (es.drop k) := fun G w0 R0 R a w hc he => by
  have e1 : a.eval q = _ := hq R a he
  have hok := hc.owned _ (H5 hi)
  have hu := hok.2.1
  refine ⟨fun f hf => hu f (List.mem_of_mem_drop hf), ?_⟩
  obtain ⟨_, _, xs0, hown0, _⟩ := hok
  rcases hown0.2 with ⟨h1, h2⟩ | ⟨g, cap, cur0, h1, _⟩
  · subst h1
    have h3 : es = [] := List.eq_nil_of_length_eq_zero h2
    subst h3
    have : k = 0 := by simpa using hk
    subst this
    exact ⟨none, 0, [], by rw [e1]; rfl, fun h => absurd rfl h⟩
  · subst h1
    by_cases hne : es.drop k = []
    · refine ⟨_, cap - k, [], by rw [e1, List.length_drop]; rfl, fun h => absurd hne h⟩
    · have hsrc := src_own (own := own) (E := E) (q := q) (k := k) i hi hq
      obtain ⟨_, h7⟩ := hsrc G w0 R0 R a w hc he
      obtain ⟨ad, c, vs, k1, k2, k3⟩ := h7 hne
      exact ⟨_, c, vs, k1, fun _ => ⟨ad, rfl, k2, k3⟩⟩
theorem Aw0 {q : Operand} {v : Value} {k : Nat} {e : TypeId} {sz : Nat} {es : List (List AV)} (i : Nat) (hi : own[i]? = some (.arr v e sz es)) (hq : Ev E q (AV.is (headV k sz v))) (hk : k ≤ es.length) : SrcE own E q sz (es.take k) := fun G w0 R0 R a w hc he => by
  have e1 : a.eval q = _ := hq R a he
  have hok := hc.owned _ (H5 hi)
  have hu := hok.2.1
  have hlk : (es.take k).length = k := by rw [F8]; omega
  refine ⟨fun f hf => hu f (List.mem_of_mem_take hf), ?_⟩
  obtain ⟨_, _, xs0, hown0, _⟩ := hok
  rcases hown0.2 with ⟨h1, h2⟩ | ⟨g, cap, cur0, h1, _⟩
  · subst h1
    have h3 : es = [] := List.eq_nil_of_length_eq_zero h2
    subst h3
    have : k = 0 := by simpa using hk
    subst this
    exact ⟨none, 0, [], by rw [e1]; rfl, fun h => absurd rfl h⟩
  · subst h1
    have hv : headV k sz (slv g es.length cap) = slv g k cap := Ai5 g k cap sz
    rw [hv] at e1
    obtain ⟨hl, hlc, _, hu2, cur, xs, hg, hcs, htake, hxl, hd⟩ := Ab8 (hc.owned _ (H5 hi))
    have hmul : k * sz ≤ es.length * sz := Nat.mul_le_mul_right sz hk
    refine ⟨_, cap, xs.take (k * sz), by rw [e1, hlk], fun _ => ⟨_, rfl, fun j u hu' => ?_, ?_⟩⟩
    · have hj : j < k * sz := by have := (List.getElem?_eq_some_iff.1 hu').1; rw [F8] at this; omega
      rw [List.getElem?_take_of_lt hj, ← htake, List.getElem?_take_of_lt (by omega), Array.getElem?_toList] at hu'
      rw [Z6, Nat.zero_add]
      simp [World.cell?, hg, hu']
    · rw [Y9 k hu]
      exact ⟨by simp [hd.1], fun i u x hu' hx => by
        by_cases hij : i < k * sz
        · simp only [List.getElem?_take_of_lt hij] at hu' hx; exact hd.2 i u x hu' hx
        · rw [List.getElem?_eq_none (by simp; omega)] at hu'; cases hu'⟩
theorem w_ahiT {t e : TypeId} {p q : Operand} {v : Value} {sz : Nat} {es : List (List AV)} {k : Int} (i : Nat) (ho : o.op = .slice t p none (some q) none) (ht : P.underlying t = some (.slice e)) (hsz : ∀ w, (sizeOf e).run P w = .ok sz w) (hp : Ev E p (AV.is v)) (hi' : own[i]? = some (.arr v e sz es)) (hq : Ev E q (AV.int k)) (h0 : 0 ≤ k) (h1 : k ≤ es.length) :
    OpW P G n own o E (AV.is (headV k.toNat sz v)) := U8 fun w0 R0 R a w hcore he => by
  have e1 : a.eval p = v := H3 hp (by simp [ho, Op.operands]) he
  have e2 : a.eval q = .int .i64 k := H3 hq (by simp [ho, Op.operands]) he
  have hel : P.elem t = e := by simp [Program.elem, ht]
  obtain ⟨_, _, xs, hown, _⟩ := hcore.owned _ (H5 hi')
  obtain ⟨oa, c, rfl, hnc⟩ := n1 hown
  have hr1 := run_slice_h (P := P) (w := w) (t := t) (a := oa) (len := es.length) (cap := c) (by rw [hel]; exact ht) .i64 k h0 (by omega)
  rw [hel, hsz, Result.andThen_ok] at hr1
  exact ⟨sliced oa 0 k.toNat c sz, by simp only [execOp, ho, e1, e2, Option.map_some, Option.map_none, run_sliceAt_slice w t _ _ _ _ (by rw [hel]; exact ht), hr1, Sem.run_bind, Sem.run_pure, Result.andThen_ok], rfl⟩
theorem AK0 {ops : Array Oper} {t e : TypeId} {p q : Operand} {sz by' : Nat} {inf : TypeInfo} {z : Value} {v : Value} {es fs : List (List AV)} (i : Nat) (ho : o.op = .call { callee := .builtin .append, args := #[p, q], argTypes := #[t, t] }) (ht : P.underlying t = some (.slice e)) (hinf : P.info? e = some inf) (hz : inf.zero = some z) (hsz : inf.size = sz) (hby : inf.bytes = by') (hzs : z.cells.size = sz) (hpos : Nat.ble 1 sz = true) (hpos2 : Nat.ble 1 by' = true) (hp : Ev E p (AV.is v)) (hq : SrcE own E q sz fs) (hi : own[i]? = some (.arr v e sz es))
    (hlen : (es.length + fs.length) * by' ≤ 140737488355328) : OpE P G n own ops o E (fun _ : Value => True) (fun v' => own.set i (.arr v' e sz (es ++ fs))) (fun v' => AV.is v') :=
  fun w0 R0 R a w h1 h3 h2 => by
    have e1 : a.eval p = v := AL5 (ops := ops) hp (by simp [ho, Op.operands, Call.operands]) h2
    obtain ⟨hu, oa, c, ns, e2, hcell⟩ := hq G w0 R0 R a w h1 (fun t ht y hy => h2 t (l7 (by subst ht; exact List.mem_filterMap.2 ⟨.tmp t, by simp [ho, Op.operands, Call.operands], rfl⟩)) y hy)
    obtain ⟨hR, hue, xs, hown, hdc⟩ := h1.owned _ (H5 hi)
    have hb1 := Nat.le_of_ble_eq_true hpos
    have hb2 := Nat.le_of_ble_eq_true hpos2
    have hsum : es.length + fs.length ≤ 140737488355328 := Nat.le_trans (Nat.le_mul_of_pos_right _ hb2) hlen
    have hufs : ∀ x ∈ es ++ fs, x.length = sz := fun x hx => by
      rcases List.mem_append.1 hx with h | h
      · exact hue x h
      · exact hu x h
    by_cases hfs : fs = []
    · subst hfs
      have hrun : ∃ v', (Builtin.append_ #[t, t] o.type #[v, a.eval q]).run P w = .ok v' w ∧ v' = v := by
        refine ⟨v, ?_, rfl⟩
        rw [e2]
        rcases hown.2 with ⟨rfl, hz0⟩ | ⟨g, cap, cur, rfl, _, _, hnc, _⟩
        · cases oa with
          | none => simp [Builtin.append_, run_underlying ht, sizeOf, typeInfo, hinf, Builtin.lenOf, Builtin.firstCells, hz0]
          | some ad => simp [Builtin.append_, run_underlying ht, sizeOf, typeInfo, hinf, Builtin.lenOf, Builtin.firstCells, loadCells, loadCellsFrom, hz0]
        · cases oa with
          | none => simp [Builtin.append_, run_underlying ht, sizeOf, typeInfo, hinf, Builtin.lenOf, Builtin.firstCells, hnc, storeCells]
          | some ad => simp [Builtin.append_, run_underlying ht, sizeOf, typeInfo, hinf, Builtin.lenOf, Builtin.firstCells, loadCells, loadCellsFrom, hnc, storeCells]
      obtain ⟨v', hr, rfl⟩ := hrun
      have hex : (execOp a.eval o).run P w = .ok (.value v') w := by
        simp only [execOp, ho, resolve, invoke, builtin, Sem.run_bind, Sem.run_pure, Result.andThen_ok, List.map_toArray, List.map_cons, List.map_nil, e1, hr]
      unfold Oper.wp
      rw [hex, Oper.upon_value]
      have hset : own.set i (.arr v' e sz (es ++ [])) = own := by
        rw [List.append_nil]
        obtain ⟨hlt, he⟩ := List.getElem?_eq_some_iff.1 hi
        rw [← he]; exact List.set_getElem_self hlt
      exact ⟨v', v', R, trivial, rfl, by show Core G w0 R0 (own.set i (.arr v' e sz (es ++ []))) R w; rw [hset]; exact h1, RSub.refl _, rfl⟩
    · obtain ⟨ad, rfl, hn2, hn3⟩ := hcell hfs
      have hn1 : ns.length = fs.flatten.length := hn3.1
      have hnl : ns.length = fs.length * sz := by rw [hn1, V0 hu]
      have hone : ∀ u ∈ ns, u.oneCell' = true := fun u hm => by
        obtain ⟨j, hj⟩ := List.getElem?_of_mem hm
        have hjl : j < fs.flatten.length := by rw [← hn1]; exact (List.getElem?_eq_some_iff.1 hj).1
        exact (hn3.2 j u _ hj (List.getElem?_eq_getElem hjl)).2
      obtain ⟨v', w', hr, hown', hgr, _, hblk⟩ := run_append_own_at (P := P) w 0 t o.type e inf z sz by' ht hinf hz hsz hby hzs hb1 v es.length xs hown ad fs.length c ns hnl hn2 hone (by unfold maxLen; omega) hlen (Nat.zero_le _)
      have hex : (execOp a.eval o).run P w = .ok (.value v') w' := by
        simp only [execOp, ho, resolve, invoke, builtin, Sem.run_bind, Sem.run_pure, Result.andThen_ok, List.map_toArray, List.map_cons, List.map_nil, e1, e2, hr]
      unfold Oper.wp
      rw [hex, Oper.upon_value]
      refine ⟨v', v', R, trivial, rfl, w9 h1 hi (fun b hb => ?_) ⟨fun b hb => ?_, hufs, xs ++ ns, ?_, ?_⟩ hgr, RSub.refl _, rfl⟩
      · simp only [Own.blk] at hb ⊢
        rcases hblk with h | h
        · exact .inl (by rw [← h]; exact hb)
        · rw [hb] at h; injection h with h; exact .inr h
      · rcases hblk with h | h
        · exact hR b (by rw [← h]; exact hb)
        · rw [hb] at h; injection h with h; subst h; exact t2 h1.rle
      · rw [I5]; exact hown'
      · rw [List.flatten_append]; exact m0 hdc hn3

theorem lt_tailm {α : Type} {f : α → List AV} {l : List α} {v : Value} {e : TypeId} {sz lo k : Nat} (hm : Own.arr v e sz (l.map f) ∈ own) (hlo : lo = k) (hk : k ≤ l.length) : LendTo own (AV.is (tailV lo sz v)) (AV.list sz ((l.drop k).map f)) := fun G w0 R0 R w u hc hu => by
  subst hlo
  cases (show u = tailV lo sz v from hu)
  obtain ⟨_, _, xs, hown, _⟩ := hc.owned _ hm
  obtain ⟨oa, c, hv, hnc⟩ := n1 hown
  have h1 := d5 hm W8 G w0 R0 R w v hc rfl
  obtain ⟨oa', c', e1, k1, k2, k3, k4⟩ := h1
  subst e1
  have h9 := AN8 (R := lend own w R) (lo := lo) (hi := (l.map f).length) (es := l.map f) (oa := oa') rfl k1 k2 k3 k4 (by rw [A6]; exact hk) (Nat.le_refl _)
  rw [List.take_length, ← List.map_drop] at h9
  exact h9
end
end Go.AV

namespace Go.Proofs
open Go.Shelf
def Tryz.sortStrs_ren : Go.Shelf.Ren := ⟨fun | 190 => 189 | 125 => 102 | 258 => 221 | 128 => 157 | 129 => 158 | 302 => 232 | 303 => 233 | 304 => 234 | 305 => 235 | 306 => 236 | 307 => 237 | 308 => 238 | 309 => 239 | 310 => 240 | 333 => 242 | 329 => 194 | 330 => 195 | 334 => 243 | 335 => 244 | 336 => 160 | 344 => 245 | n => n, fun | 31 => 99 | 9 => 9 | 3 => 3 | 46 => 158 | 0 => 0 | 51 => 200 | 53 => 112 | 4 => 4 | 183 => 194 | 182 => 193 | 131 => 24 | 5 => 5 | 218 => 228 | 222 => 232 | 228 => 251 | 229 => 252 | n => n, fun | n => n⟩
theorem Tryz.sortStrs : Go.Proofs.Lays.n190 Tryz.prog Tryz.sortStrs_ren := {
  mixed := by kernel_rfl
  f125 := Tryz.func102.trans (congrArg some (by kernel_rfl))
  f128 := Tryz.func157.trans (congrArg some (by kernel_rfl))
  f129 := Tryz.func158.trans (congrArg some (by kernel_rfl))
  f190 := Tryz.func189.trans (congrArg some (by kernel_rfl))
  f258 := Tryz.func221.trans (congrArg some (by kernel_rfl))
  f302 := Tryz.func232.trans (congrArg some (by kernel_rfl))
  f303 := Tryz.func233.trans (congrArg some (by kernel_rfl))
  f304 := Tryz.func234.trans (congrArg some (by kernel_rfl))
  f305 := Tryz.func235.trans (congrArg some (by kernel_rfl))
  f306 := Tryz.func236.trans (congrArg some (by kernel_rfl))
  f307 := Tryz.func237.trans (congrArg some (by kernel_rfl))
  f308 := Tryz.func238.trans (congrArg some (by kernel_rfl))
  f309 := Tryz.func239.trans (congrArg some (by kernel_rfl))
  f310 := Tryz.func240.trans (congrArg some (by kernel_rfl))
  f329 := Tryz.func194.trans (congrArg some (by kernel_rfl))
  f330 := Tryz.func195.trans (congrArg some (by kernel_rfl))
  f333 := Tryz.func242.trans (congrArg some (by kernel_rfl))
  f334 := Tryz.func243.trans (congrArg some (by kernel_rfl))
  f335 := Tryz.func244.trans (congrArg some (by kernel_rfl))
  f336 := Tryz.func160.trans (congrArg some (by kernel_rfl))
  f344 := Tryz.func245.trans (congrArg some (by kernel_rfl))
  t0 := Tryz.underlying0
  a0 := Tryz.isAgg0
  z0 := Tryz.sizeOf0
  v0 := Tryz.zeroValue0
  t3 := T6
  a3 := D1
  z3 := B9
  v3 := Tryz.zeroValue3
  t4 := O6
  a4 := I9
  z4 := G3
  v4 := Tryz.zeroValue4
  t5 := Tryz.underlying5
  a5 := Tryz.isAgg5
  z5 := Tryz.sizeOf5
  v5 := Tryz.zeroValue5
  t9 := J0
  a9 := E6
  z9 := D2
  v9 := Tryz.zeroValue9
  t31 := D6
  a31 := N4
  z31 := L0
  v31 := Tryz.zeroValue99
  t46 := Tryz.underlying158
  a46 := Tryz.isAgg158
  z46 := Tryz.sizeOf158
  v46 := Tryz.zeroValue158
  t51 := Tryz.underlying200
  a51 := Tryz.isAgg200
  z51 := Tryz.sizeOf200
  v51 := Tryz.zeroValue200
  t53 := Tryz.underlying112
  a53 := Tryz.isAgg112
  z53 := Tryz.sizeOf112
  v53 := Tryz.zeroValue112
  t131 := Tryz.underlying24
  a131 := Tryz.isAgg24
  z131 := Tryz.sizeOf24
  v131 := Tryz.zeroValue24
  t182 := Tryz.underlying193
  a182 := Tryz.isAgg193
  z182 := Tryz.sizeOf193
  v182 := Tryz.zeroValue193
  t183 := Tryz.underlying194
  a183 := Tryz.isAgg194
  z183 := Tryz.sizeOf194
  v183 := Tryz.zeroValue194
  t218 := Tryz.underlying228
  a218 := Tryz.isAgg228
  z218 := Tryz.sizeOf228
  v218 := Tryz.zeroValue228
  t222 := Tryz.underlying232
  a222 := Tryz.isAgg232
  z222 := Tryz.sizeOf232
  v222 := Tryz.zeroValue232
  t228 := Tryz.underlying251
  a228 := Tryz.isAgg251
  z228 := Tryz.sizeOf251
  v228 := Tryz.zeroValue251
  t229 := Tryz.underlying252
  a229 := Tryz.isAgg252
  z229 := Tryz.sizeOf252
  v229 := Tryz.zeroValue252 }
end Go.Proofs

namespace Go.Proofs.YtkegepoihkhihaaGreat
open Go Go.AV Go.M
attribute [local irreducible] OpW OpA OpS AWP FSpec ESpec GSpec OpE RetOk RetOkG RvDen Le Ev GuardIs SrcIs Int.tmod Int.tdiv IntKind.wrap
theorem Af6 (v : Value) (l : List Str) (hl : l.length < 4611686018427387904) : GSpec Tryz.prog 189 [AV.is v] [.arr v 9 1 (l.map fun s => [AV.str s])] (fun _ : Unit => True) (fun _ => [.arr v 9 1 ((sortS l).map fun s => [AV.str s])]) (fun _ => AV.tup []) :=
  row_own1 Go.Proofs.encStr (fun _ => rfl) sortS AV9
    (fun blk off cap zs w h1 h2 h3 => Any.slices_Sort_string Tryz.sortStrs blk off cap zs w h1 h2 h3) (fun p cap w => Any.slices_Sort_string_none Tryz.sortStrs p cap w) v l hl
end Go.Proofs.YtkegepoihkhihaaGreat
