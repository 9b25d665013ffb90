/- Texts of the claim, part 3. -/
import Derived.Test.YtkegepoihkhihaaGreatRows
import Derived.Sort.OwnSortedInts
import Derived.Sort.EncStr
import Derived.Shelf.GgSortFunc.RowK
import Derived.Shelf.Sort.Plain
import Derived.Shelf.Slices.In.SortNone
import Derived.Test.YtkegepoihkhihaaGreatProg
import Derived.Test.YtkegepoihkhihaaGreatZSureTo2

set_option linter.unusedVariables false
set_option linter.unusedSimpArgs false
set_option maxRecDepth 100000
namespace Go.Proofs.YtkegepoihkhihaaGreat
open Go Go.AV Go.M
attribute [local irreducible] OpW OpA OpS AWP FSpec ESpec RetOk RvDen Le Ev GuardIs
theorem AG8 (a : TWrite) (left : Int) (hok : a.ok) (h0 : 0 ≤ left) (h1 : left ≤ 1048576) : FSpec Tryz.prog 182 [AV.agg a.cs, AV.int left] (AV.int (szR a.size left)) := by
 obtain ⟨oKey, oVal⟩ := hok
 refine C1 Tryz.func182 rfl Tryz.ntmps182 rfl ?_
 refine A3 (A2 ?_)
 refine I2 rfl rfl rfl rfl (A0 rfl) ?_
 intro b2
 refine A1 rfl (A8 rfl B3) ?_
 refine A4 (A3 (A2 ?_))
 refine A5 rfl ?_
 refine A1 rfl (B2 0 rfl P0 rfl D2 (A0 rfl) rfl) ?_
 refine A1 rfl (B0 0 rfl (A0 rfl) rfl E5 rfl) ?_
 refine A1 rfl (T8 rfl H6 (A0 rfl)) ?_
 refine A1 rfl (L1 rfl (A0 rfl) (A0 rfl) (by first | omega | (simp only [D1, B1, szR] at *; omega))) ?_
 refine B5 rfl ?_
 refine A4 (A3 (A3 (A2 ?_)))
 refine A5 rfl ?_
 refine A1 rfl (F8 rfl (A0 rfl) B3) ?_
 refine A4 ?_
 refine B8 (A0 rfl) ?_ ?_
 ·intro h11
  have k11 := of_decide_eq_true h11; try simp only [A6] at k11
  refine A3 (A2 ?_)
  refine A1 rfl (A8 rfl B3) ?_
  refine A4 ?_
  refine B7 ?_
  exact D7 rfl (B6 rfl (by exact congrArg AV.int (by simp only [szR, TWrite.size, decide_eq_true_eq, decide_eq_false_iff_not] at *; omega)))
 intro h11
 have k11 := of_decide_eq_false h11; try simp only [A6] at k11
 refine B9 (A3 (A2 ?_))
 refine A5 rfl ?_
 refine A1 rfl (B2 1 rfl P0 rfl D2 (A0 rfl) rfl) ?_
 refine A1 rfl (B0 0 rfl (A0 rfl) rfl E5 rfl) ?_
 refine A1 rfl (T8 rfl H6 (A0 rfl)) ?_
 refine A1 rfl (L1 rfl (A0 rfl) (A0 rfl) (by first | omega | (simp only [D1, B1, szR] at *; omega))) ?_
 refine B5 rfl ?_
 refine A4 (A3 (A3 (A2 ?_)))
 refine A5 rfl ?_
 refine A1 rfl (F8 rfl (A0 rfl) B3) ?_
 refine A4 ?_
 refine B8 (A0 rfl) ?_ ?_
 ·intro h18
  have k18 := of_decide_eq_true h18; try simp only [A6] at k18
  refine A3 (A2 ?_)
  refine A1 rfl (A8 rfl B3) ?_
  refine A4 ?_
  refine B7 ?_
  exact D7 rfl (B6 rfl (by exact congrArg AV.int (by simp only [szR, TWrite.size, decide_eq_true_eq, decide_eq_false_iff_not] at *; omega)))
 intro h18
 have k18 := of_decide_eq_false h18; try simp only [A6] at k18
 refine B9 (A3 (A2 ?_))
 refine A5 rfl ?_
 refine B5 rfl ?_
 refine A4 ?_
 refine B7 ?_
 exact D7 rfl (B6 rfl (by exact congrArg AV.int (by simp only [szR, TWrite.size, decide_eq_true_eq, decide_eq_false_iff_not] at *; omega)))
theorem AG9 (a : TWrite) (hs : a.size ≤ 1048576) : FSpec Tryz.prog 184 [AV.agg a.cs] (AV.agg a.cs) := by
 unfold TWrite.size at hs
 refine C1 Tryz.func184 rfl Tryz.ntmps184 rfl ?_
 refine A3 (A2 ?_)
 refine I2 rfl rfl rfl rfl (A0 rfl) ?_
 intro b1
 refine H4 rfl rfl rfl rfl Tryz.zeroValue101 rfl ?_
 intro b2
 refine A4 (A3 (A2 ?_))
 refine H4 rfl rfl rfl rfl Tryz.zeroValue101 rfl ?_
 intro b3
 refine A4 (A3 (A2 ?_))
 refine A1 rfl (B2 0 rfl P0 rfl D2 (A0 rfl) rfl) ?_
 refine A1 rfl (B0 2 rfl (A0 rfl) rfl E5 rfl) ?_
 refine A1 rfl (B2 0 rfl F5 rfl D2 (A0 rfl) rfl) ?_
 refine K7 0 rfl rfl rfl (A0 rfl) (A0 rfl) (U8 _) rfl D2 rfl ?_
 refine A4 (A3 (A2 ?_))
 refine A1 rfl (B2 1 rfl P0 rfl D2 (A0 rfl) rfl) ?_
 refine A1 rfl (B0 2 rfl (A0 rfl) rfl E5 rfl) ?_
 refine A1 rfl (B2 1 rfl F5 rfl D2 (A0 rfl) rfl) ?_
 refine K7 0 rfl rfl rfl (A0 rfl) (A0 rfl) (U8 _) rfl D2 rfl ?_
 refine A4 (A3 (A2 ?_))
 refine A1 rfl (B2 2 rfl P0 rfl G7 (A0 rfl) rfl) ?_
 refine A1 rfl (B0 2 rfl (A0 rfl) rfl H9 rfl) ?_
 refine A1 rfl (B2 2 rfl F5 rfl G7 (A0 rfl) rfl) ?_
 refine K7 0 rfl rfl rfl (A0 rfl) (A0 rfl) (w9 _) rfl G7 rfl ?_
 refine A4 (A3 (A2 ?_))
 refine A1 rfl (M0 0 rfl (A0 rfl) rfl L5 F7 rfl) ?_
 refine H1 1 rfl rfl rfl (A0 rfl) (A0 rfl) (I6 _) rfl F7 rfl ?_
 refine A4 ?_
 refine B7 ?_
 exact D7 rfl (U1 (ys := _) 1 rfl rfl L5 F7 rfl)
theorem AH0 (a b : TWrite) : FSpec Tryz.prog 192 [AV.agg a.cs, AV.agg b.cs] (AV.bool (decide (a = b))) := by
 refine C1 Tryz.func192 rfl Tryz.ntmps192 rfl ?_
 refine A3 (A2 ?_)
 refine I2 rfl rfl rfl rfl (A0 rfl) ?_
 intro b2
 refine I2 rfl rfl rfl rfl (A0 rfl) ?_
 intro b3
 refine A1 rfl (A8 rfl D8) ?_
 refine A4 (A3 (A3 (A2 ?_)))
 refine A1 rfl (B2 0 rfl F5 rfl D2 (A0 rfl) rfl) ?_
 refine A1 rfl (B0 1 rfl (A0 rfl) rfl E5 rfl) ?_
 refine A1 rfl (B2 0 rfl F5 rfl D2 (A0 rfl) rfl) ?_
 refine A1 rfl (B0 0 rfl (A0 rfl) rfl E5 rfl) ?_
 refine A1 rfl (Y8 rfl (A0 rfl) (A0 rfl)) ?_
 refine A4 ?_
 refine B8 (A0 rfl) ?_ ?_
 ·intro h9
  refine A3 (A2 ?_)
  refine A1 rfl (A8 rfl D8) ?_
  refine A4 ?_
  refine B7 ?_
  exact D7 rfl (B6 rfl (by exact congrArg AV.bool (by cases a; cases b; simp_all)))
 intro h9
 refine B9 (A3 (A3 (A2 ?_)))
 refine A1 rfl (B2 1 rfl F5 rfl D2 (A0 rfl) rfl) ?_
 refine A1 rfl (B0 1 rfl (A0 rfl) rfl E5 rfl) ?_
 refine A1 rfl (B2 1 rfl F5 rfl D2 (A0 rfl) rfl) ?_
 refine A1 rfl (B0 0 rfl (A0 rfl) rfl E5 rfl) ?_
 refine A1 rfl (Y8 rfl (A0 rfl) (A0 rfl)) ?_
 refine A4 ?_
 refine B8 (A0 rfl) ?_ ?_
 ·intro h14
  refine A3 (A2 ?_)
  refine A1 rfl (A8 rfl D8) ?_
  refine A4 ?_
  refine B7 ?_
  exact D7 rfl (B6 rfl (by exact congrArg AV.bool (by cases a; cases b; simp_all)))
 intro h14
 refine B9 (A3 (A3 (A2 ?_)))
 refine A1 rfl (B2 2 rfl F5 rfl G7 (A0 rfl) rfl) ?_
 refine A1 rfl (B0 1 rfl (A0 rfl) rfl H9 rfl) ?_
 refine A1 rfl (B2 2 rfl F5 rfl G7 (A0 rfl) rfl) ?_
 refine A1 rfl (B0 0 rfl (A0 rfl) rfl H9 rfl) ?_
 refine A1 rfl (s5 rfl O8 (A0 rfl) (A0 rfl)) ?_
 refine A4 ?_
 refine B8 (A0 rfl) ?_ ?_
 ·intro h19
  refine A3 (A2 ?_)
  refine A1 rfl (A8 rfl D8) ?_
  refine A4 ?_
  refine B7 ?_
  exact D7 rfl (B6 rfl (by exact congrArg AV.bool (by cases a; cases b; simp_all)))
 intro h19
 refine B9 (A3 (A2 ?_))
 refine A1 rfl (A8 rfl D8) ?_
 refine A4 ?_
 refine B7 ?_
 exact D7 rfl (B6 rfl (by exact congrArg AV.bool (by cases a; cases b; simp_all)))
theorem AA0 (l : List Str) (left : Int) (hok : (∀ x ∈ l, x.length ≤ 9223372036854775807)) (h0 : 0 ≤ left) (h1 : left ≤ 1048576) : FSpec Tryz.prog 131 [strs l, AV.int left] (AV.int (szR (sizeL (fun x => x.length) l) left)) := by
 refine C1 Tryz.func131 rfl Tryz.ntmps131 rfl ?_
 refine J7 (t := 0) rfl fun hl => ?_
 try simp only [A6] at hl
 refine A3 (A2 ?_)
 refine A1 rfl (A8 rfl B3) ?_
 refine A4 (A3 (A2 ?_))
 refine A5 rfl ?_
 refine A5 rfl ?_
 refine A1 rfl (E4 rfl C7 (A0 rfl)) ?_
 refine A1 rfl (L1 rfl (A0 rfl) (A0 rfl) (by first | omega | (simp only [D1, B1, szR] at *; omega))) ?_
 refine B5 rfl ?_
 refine A4 (A3 (A3 (A2 ?_)))
 refine A5 rfl ?_
 refine A1 rfl (F8 rfl (A0 rfl) B3) ?_
 refine A4 ?_
 refine B8 (A0 rfl) ?_ ?_
 ·intro h11
  have k11 := of_decide_eq_true h11; try simp only [A6] at k11
  refine A3 (A2 ?_)
  refine A1 rfl (A8 rfl B3) ?_
  refine A4 ?_
  refine B7 ?_
  exact D7 rfl (B6 rfl (by exact congrArg AV.int (by simp only [szR, sizeL, A6, decide_eq_true_eq, decide_eq_false_iff_not] at *; omega)))
 intro h11
 have k11 := of_decide_eq_false h11; try simp only [A6] at k11
 refine B9 (A3 (A3 (A2 ?_)))
 refine A1 rfl (A8 rfl B3) ?_
 refine A4 (C5 ?_)
 refine M3 [(0, _)] _ (fun (i : Nat) (b : Int) => i ≤ l.length ∧ b = left - l.length - (((l.take i).map (fun x => x.length)).sum : Nat) ∧ 0 ≤ b) (fun (i : Nat) (b : Int) => []) (fun (i : Nat) (b : Int) => [(1, AV.int b), (5, AV.int i)]) (fun (i : Nat) (b : Int) => l.length - i) (0) (left - ((l.map fun x => [AV.str x]).length : Int)) ?_ (G1 ⟨rfl, rfl, rfl, trivial⟩) ?_
 ·exact ⟨Nat.zero_le _, by simp, by simp only [A6]; omega⟩
 intro i b hinv
 refine A3 (A3 (A2 ?_))
 refine A5 rfl ?_
 refine A5 rfl ?_
 refine A1 rfl (E4 rfl C7 (A0 rfl)) ?_
 refine A1 rfl (F8 rfl (A0 rfl) (A0 rfl)) ?_
 refine A4 ?_
 refine B8 (A0 rfl) ?_ ?_
 ·intro h15
  have k15 := of_decide_eq_true h15; try simp only [A6] at k15
  have hlt : i < l.length := by omega
  obtain ⟨x, hx⟩ := get_some hlt
  have e2 := Z3 (fun x => x.length) l i x hx
  have hokx := hok x (H0 hx)
  refine B9 (A3 (C5 (A3 (A2 ?_))))
  refine A5 rfl ?_
  refine A5 rfl ?_
  refine A5 rfl ?_
  refine A1 rfl (M1 rfl C7 D2 (A0 rfl) (A0 rfl) (by omega) (by simp only [Int.toNat_natCast, List.getElem?_map, hx, Option.map_some]; try rfl)) ?_
  refine A1 rfl (I9 rfl (A0 rfl) E5 rfl) ?_
  refine A1 rfl (T8 rfl H6 (A0 rfl)) ?_
  refine A1 rfl (L1 rfl (A0 rfl) (A0 rfl) (by first | omega | (simp only [D1, B1, szR] at *; omega))) ?_
  refine B5 rfl ?_
  refine A4 (A3 (A2 ?_))
  refine A5 rfl ?_
  refine A1 rfl (F8 rfl (A0 rfl) B3) ?_
  refine A4 ?_
  refine B8 (A0 rfl) ?_ ?_
  ·intro h26
   have k26 := of_decide_eq_true h26; try simp only [A6] at k26
   refine A3 (A2 ?_)
   refine A1 rfl (A8 rfl B3) ?_
   refine A4 ?_
   refine B7 ?_
   exact D7 rfl (B6 rfl (by exact congrArg AV.int (by simp only [szR, sizeL, A6, decide_eq_true_eq, decide_eq_false_iff_not] at *; omega)))
  intro h26
  have k26 := of_decide_eq_false h26; try simp only [A6] at k26
  refine B9 (A2 ?_)
  refine A5 rfl ?_
  refine A1 rfl (G6 rfl (A0 rfl) B3 (by first | omega | (simp only [D1, B1, szR] at *; omega))) ?_
  refine B5 rfl ?_
  refine A4 ?_
  refine L8 i b (i + 1) ((b - (x.length : Int))) ?_ ?_ (G1 ⟨rfl, rfl, rfl, trivial⟩)
  ·exact ⟨by omega, by have e1 := W4 (fun x => x.length) l i x hx; simp only [szR, decide_eq_false_iff_not] at *; omega, by omega⟩
  omega
 intro h15
 have k15 := of_decide_eq_false h15; try simp only [A6] at k15
 have hge : l.length ≤ i := by omega
 have e3 : ((l.take i).map (fun x => x.length)).sum = (l.map (fun x => x.length)).sum := by rw [List.take_of_length_le hge]
 refine F3 ?_
 refine A3 (A2 ?_)
 refine A5 rfl ?_
 refine B5 rfl ?_
 refine A4 ?_
 refine B7 ?_
 exact D7 rfl (B6 rfl (by exact congrArg AV.int (by simp only [szR, sizeL, A6, decide_eq_true_eq, decide_eq_false_iff_not] at *; omega)))
theorem AA1 (l : List Str) (hs : sizeL (fun x => x.length) l ≤ 1048576) : FSpec Tryz.prog 134 [strs l] (strs l) := by
 have hsl : l.length ≤ 1048576 := Nat.le_trans K9 hs
 refine C1 Tryz.func134 rfl Tryz.ntmps134 rfl ?_
 refine A3 (A2 ?_)
 refine A1 rfl (A8 rfl (V5 (sz := 1))) ?_
 refine A4 (A3 (A2 ?_))
 refine A5 rfl ?_
 refine A1 rfl (E4 rfl C7 (A0 rfl)) ?_
 refine X6 (by' := 16) rfl rfl rfl rfl C7 Tryz.type9 rfl rfl rfl rfl rfl rfl (A0 rfl) (A0 rfl) (by simp only [A6]; omega) (by simp only [A6]; omega) ?_
 intro v7
 refine B5 rfl ?_
 refine A4 (A3 (A3 (A2 ?_)))
 refine A1 rfl (A8 rfl B3) ?_
 refine A4 (C5 ?_)
 refine G0 [(0, _), (2, _), (3, _)] _ (fun (i : Nat) => i ≤ l.length) (fun (i : Nat) => [.arr v7 9 1 ((l.take i).map (fun x => [AV.str x]) ++ List.replicate (l.length - i) [AV.str []])]) (fun (i : Nat) => [(4, AV.int i)]) (fun (i : Nat) => l.length - i) (0) ?_ (M7 (by simp only [A6]; rfl) ⟨rfl, rfl, rfl, rfl, trivial⟩) ?_
 ·exact Nat.zero_le _
 intro i hinv
 refine A3 (A3 (A2 ?_))
 refine A5 rfl ?_
 refine A5 rfl ?_
 refine A1 rfl (E4 rfl C7 (A0 rfl)) ?_
 refine A1 rfl (F8 rfl (A0 rfl) (A0 rfl)) ?_
 refine A4 ?_
 refine B8 (A0 rfl) ?_ ?_
 ·intro h11
  have k11 := of_decide_eq_true h11; try simp only [A6] at k11
  have hlt : i < l.length := by omega
  obtain ⟨x, hx⟩ := get_some hlt
  refine B9 (A3 (C5 (A2 ?_)))
  refine A5 rfl ?_
  refine A5 rfl ?_
  refine A5 rfl ?_
  refine A5 rfl ?_
  refine A1 rfl (M1 rfl C7 D2 (A0 rfl) (A0 rfl) (by omega) (by simp only [Int.toNat_natCast, List.getElem?_map, hx, Option.map_some]; try rfl)) ?_
  refine A1 rfl (I9 rfl (A0 rfl) E5 rfl) ?_
  refine A1 rfl (S7 0 rfl C7 D2 (A0 rfl) rfl (A0 rfl) (by omega) (by rw [O7 hinv]; omega)) ?_
  refine T1 0 rfl rfl rfl (A0 rfl) (A0 rfl) (U8 _) rfl D2 rfl (by rw [O7 hinv]; omega) ?_
  refine A4 (A2 ?_)
  refine A5 rfl ?_
  refine A1 rfl (G6 rfl (A0 rfl) B3 (by first | omega | (simp only [D1, B1, szR] at *; omega))) ?_
  refine B5 rfl ?_
  refine A4 ?_
  refine G9 i (i + 1) ?_ ?_ (M7 (by exact congrArg (fun z => [Own.arr v7 9 1 z]) (V1 hx)) ⟨rfl, rfl, rfl, rfl, trivial⟩)
  ·omega
  omega
 intro h11
 have k11 := of_decide_eq_false h11; try simp only [A6] at k11
 have hge : l.length ≤ i := by omega
 rw [V2 hge]
 refine F3 ?_
 refine A3 (A2 ?_)
 refine A5 rfl ?_
 refine B5 rfl ?_
 refine A4 ?_
 refine B7 ?_
 refine V0 0 2 rfl rfl ?_
 exact D7 rfl (B6 rfl (by first | rfl | (refine congrArg AV.bool ?_; simp_all; done)))
theorem AA2 (a b : List Str) : FSpec Tryz.prog 147 [strs a, strs b] (AV.bool (decide (a = b))) := by
 refine C1 Tryz.func147 rfl Tryz.ntmps147 rfl ?_
 refine J7 (t := 0) rfl fun hl => ?_
 try simp only [A6] at hl
 refine A3 (A2 ?_)
 refine A1 rfl (A8 rfl D8) ?_
 refine A4 (A3 (A3 (A2 ?_)))
 refine A5 rfl ?_
 refine A1 rfl (E4 rfl C7 (A0 rfl)) ?_
 refine A5 rfl ?_
 refine A1 rfl (E4 rfl C7 (A0 rfl)) ?_
 refine A1 rfl (Q4 rfl (A0 rfl) (A0 rfl)) ?_
 refine A4 ?_
 refine B8 (A0 rfl) ?_ ?_
 ·intro h10
  have k10 := N5 h10; try simp only [A6] at k10
  have hab : a ≠ b := by intro hc; subst hc; exact k10 rfl
  refine A3 (A2 ?_)
  refine A1 rfl (A8 rfl D8) ?_
  refine A4 ?_
  refine B7 ?_
  exact D7 rfl (B6 rfl (by exact congrArg AV.bool (by simp [hab])))
 intro h10
 have k10 := K0 h10; try simp only [A6] at k10
 have heq : a.length = b.length := by omega
 refine B9 (A3 (A3 (A2 ?_)))
 refine A1 rfl (A8 rfl B3) ?_
 refine A4 (C5 ?_)
 refine G0 [(0, _), (1, _)] _ (fun (i : Nat) => i ≤ a.length ∧ a.take i = b.take i) (fun (i : Nat) => []) (fun (i : Nat) => [(5, AV.int i)]) (fun (i : Nat) => a.length - i) (0) ?_ (G1 ⟨rfl, rfl, rfl, trivial⟩) ?_
 ·exact ⟨Nat.zero_le _, rfl⟩
 intro i hinv
 refine A3 (A3 (A2 ?_))
 refine A5 rfl ?_
 refine A5 rfl ?_
 refine A1 rfl (E4 rfl C7 (A0 rfl)) ?_
 refine A1 rfl (F8 rfl (A0 rfl) (A0 rfl)) ?_
 refine A4 ?_
 refine B8 (A0 rfl) ?_ ?_
 ·intro h14
  have k14 := of_decide_eq_true h14; try simp only [A6] at k14
  have hlt : i < a.length := by omega
  obtain ⟨x, hx⟩ := get_some hlt
  obtain ⟨y, hy⟩ := get_some (show i < b.length by omega)
  refine B9 (A3 (C5 (A3 ?_)))
  refine H5 (by kernel_rfl) (by kernel_rfl) rfl ?_
  refine B4 rfl rfl (C3 rfl (A0 rfl)) ?_
  refine B4 rfl rfl (C3 rfl (A0 rfl)) ?_
  refine B4 rfl rfl (M1 rfl C7 D2 (A0 rfl) (A0 rfl) (by omega) (by simp only [Int.toNat_natCast, List.getElem?_map, hx, Option.map_some]; try rfl)) ?_
  refine B4 rfl rfl (I9 rfl (A0 rfl) E5 rfl) ?_
  refine B4 rfl rfl (C3 rfl (A0 rfl)) ?_
  refine B4 rfl rfl (C3 rfl (A0 rfl)) ?_
  refine B4 rfl rfl (M1 rfl C7 D2 (A0 rfl) (A0 rfl) (by omega) (by simp only [Int.toNat_natCast, List.getElem?_map, hy, Option.map_some]; try rfl)) ?_
  refine B4 rfl rfl (I9 rfl (A0 rfl) E5 rfl) ?_
  refine B4 rfl rfl (Y8 rfl (A0 rfl) (A0 rfl)) ?_
  refine M6 ?_
  refine B8 (A0 rfl) ?_ ?_
  ·intro h25
   have hab : a ≠ b := by intro hc; subst hc; rw [hx] at hy; injection hy with hy; subst hy; simp at h25
   refine A3 (A2 ?_)
   refine A1 rfl (A8 rfl D8) ?_
   refine A4 ?_
   refine B7 ?_
   exact D7 rfl (B6 rfl (by exact congrArg AV.bool (by simp [hab])))
  intro h25
  refine B9 (A2 ?_)
  refine A5 rfl ?_
  refine A1 rfl (G6 rfl (A0 rfl) B3 (by first | omega | (simp only [D1, B1, szR] at *; omega))) ?_
  refine B5 rfl ?_
  refine A4 ?_
  refine G9 i (i + 1) ?_ ?_ (G1 ⟨rfl, rfl, rfl, trivial⟩)
  ·exact ⟨by omega, R4 hinv.2 hx (by rw [hy]; congr 1; simp_all)⟩
  omega
 intro h14
 have k14 := of_decide_eq_false h14; try simp only [A6] at k14
 have hge : a.length ≤ i := by omega
 have hab : a = b := T6 heq hinv.2 hge
 refine F3 ?_
 refine A3 (A2 ?_)
 refine A1 rfl (A8 rfl D8) ?_
 refine A4 ?_
 refine B7 ?_
 exact D7 rfl (B6 rfl (by exact congrArg AV.bool (by simp [hab])))
theorem AD5 (l : List TWrite) (left : Int) (hok : (∀ x ∈ l, x.ok)) (h0 : 0 ≤ left) (h1 : left ≤ 1048576) : FSpec Tryz.prog 132 [AV.list 3 (l.map TWrite.cs), AV.int left] (AV.int (szR (sizeL TWrite.size l) left)) := by
 refine C1 Tryz.func132 rfl Tryz.ntmps132 rfl ?_
 refine J7 (t := 0) rfl fun hl => ?_
 try simp only [A6] at hl
 refine A3 (A2 ?_)
 refine A1 rfl (A8 rfl B3) ?_
 refine A4 (A3 (A2 ?_))
 refine A5 rfl ?_
 refine A5 rfl ?_
 refine A1 rfl (E4 rfl N3 (A0 rfl)) ?_
 refine A1 rfl (L1 rfl (A0 rfl) (A0 rfl) (by first | omega | (simp only [D1, B1, szR] at *; omega))) ?_
 refine B5 rfl ?_
 refine A4 (A3 (A3 (A2 ?_)))
 refine A5 rfl ?_
 refine A1 rfl (F8 rfl (A0 rfl) B3) ?_
 refine A4 ?_
 refine B8 (A0 rfl) ?_ ?_
 ·intro h11
  have k11 := of_decide_eq_true h11; try simp only [A6] at k11
  refine A3 (A2 ?_)
  refine A1 rfl (A8 rfl B3) ?_
  refine A4 ?_
  refine B7 ?_
  exact D7 rfl (B6 rfl (by exact congrArg AV.int (by simp only [szR, sizeL, A6, decide_eq_true_eq, decide_eq_false_iff_not] at *; omega)))
 intro h11
 have k11 := of_decide_eq_false h11; try simp only [A6] at k11
 refine B9 (A3 (A3 (A2 ?_)))
 refine A1 rfl (A8 rfl B3) ?_
 refine A4 (C5 ?_)
 refine M3 [(0, _)] _ (fun (i : Nat) (b : Int) => i ≤ l.length ∧ b = left - l.length - (((l.take i).map TWrite.size).sum : Nat) ∧ 0 ≤ b) (fun (i : Nat) (b : Int) => []) (fun (i : Nat) (b : Int) => [(1, AV.int b), (5, AV.int i)]) (fun (i : Nat) (b : Int) => l.length - i) (0) (left - ((l.map fun x => TWrite.cs x).length : Int)) ?_ (G1 ⟨rfl, rfl, rfl, trivial⟩) ?_
 ·exact ⟨Nat.zero_le _, by simp, by simp only [A6]; omega⟩
 intro i b hinv
 refine A3 (A3 (A2 ?_))
 refine A5 rfl ?_
 refine A5 rfl ?_
 refine A1 rfl (E4 rfl N3 (A0 rfl)) ?_
 refine A1 rfl (F8 rfl (A0 rfl) (A0 rfl)) ?_
 refine A4 ?_
 refine B8 (A0 rfl) ?_ ?_
 ·intro h15
  have k15 := of_decide_eq_true h15; try simp only [A6] at k15
  have hlt : i < l.length := by omega
  obtain ⟨x, hx⟩ := get_some hlt
  have e2 := Z3 TWrite.size l i x hx
  have hokx := hok x (H0 hx)
  refine B9 (A3 (C5 (A3 (A2 ?_))))
  refine A5 rfl ?_
  refine A5 rfl ?_
  refine A1 rfl (M1 rfl N3 Tryz.sizeOf219 (A0 rfl) (A0 rfl) (by omega) (by simp only [Int.toNat_natCast, List.getElem?_map, hx, Option.map_some]; try rfl)) ?_
  refine A1 rfl (G8 rfl (A0 rfl) Tryz.isAgg219 Tryz.sizeOf219) ?_
  refine A5 rfl ?_
  refine A1 rfl (D4 rfl Tryz.call182 rfl (AG8 _ _ (by assumption) (by first | omega | (simp only [D1, B1, szR] at *; omega)) (by first | omega | (simp only [D1, B1, szR] at *; omega))) (A9 (A0 rfl) (A9 (A0 rfl) C6))) ?_
  refine B5 rfl ?_
  refine A4 (A3 (A2 ?_))
  refine A5 rfl ?_
  refine A1 rfl (F8 rfl (A0 rfl) B3) ?_
  refine A4 ?_
  refine B8 (A0 rfl) ?_ ?_
  ·intro h25
   have k25 := of_decide_eq_true h25; try simp only [A6] at k25
   refine A3 (A2 ?_)
   refine A1 rfl (A8 rfl B3) ?_
   refine A4 ?_
   refine B7 ?_
   exact D7 rfl (B6 rfl (by exact congrArg AV.int (by simp only [szR, sizeL, A6, decide_eq_true_eq, decide_eq_false_iff_not] at *; omega)))
  intro h25
  have k25 := of_decide_eq_false h25; try simp only [A6] at k25
  refine B9 (A2 ?_)
  refine A5 rfl ?_
  refine A1 rfl (G6 rfl (A0 rfl) B3 (by first | omega | (simp only [D1, B1, szR] at *; omega))) ?_
  refine B5 rfl ?_
  refine A4 ?_
  refine L8 i b (i + 1) ((szR (TWrite.size x) b)) ?_ ?_ (G1 ⟨rfl, rfl, rfl, trivial⟩)
  ·exact ⟨by omega, by have e1 := W4 TWrite.size l i x hx; simp only [szR, decide_eq_false_iff_not] at *; omega, by omega⟩
  omega
 intro h15
 have k15 := of_decide_eq_false h15; try simp only [A6] at k15
 have hge : l.length ≤ i := by omega
 have e3 : ((l.take i).map TWrite.size).sum = (l.map TWrite.size).sum := by rw [List.take_of_length_le hge]
 refine F3 ?_
 refine A3 (A2 ?_)
 refine A5 rfl ?_
 refine B5 rfl ?_
 refine A4 ?_
 refine B7 ?_
 exact D7 rfl (B6 rfl (by exact congrArg AV.int (by simp only [szR, sizeL, A6, decide_eq_true_eq, decide_eq_false_iff_not] at *; omega)))
theorem AD6 (l : List TWrite) (hs : sizeL TWrite.size l ≤ 1048576) : FSpec Tryz.prog 135 [AV.list 3 (l.map TWrite.cs)] (AV.list 3 (l.map TWrite.cs)) := by
 have hsl : l.length ≤ 1048576 := Nat.le_trans K9 hs
 refine C1 Tryz.func135 rfl Tryz.ntmps135 rfl ?_
 refine A3 (A2 ?_)
 refine A1 rfl (A8 rfl (V5 (sz := 3))) ?_
 refine A4 (A3 (A2 ?_))
 refine A5 rfl ?_
 refine A1 rfl (E4 rfl N3 (A0 rfl)) ?_
 refine X6 (by' := 40) rfl rfl rfl rfl E6 Tryz.type101 rfl rfl rfl rfl rfl rfl (A0 rfl) (A0 rfl) (by simp only [A6]; omega) (by simp only [A6]; omega) ?_
 intro v7
 refine B5 rfl ?_
 refine A4 (A3 (A3 (A2 ?_)))
 refine A1 rfl (A8 rfl B3) ?_
 refine A4 (C5 ?_)
 refine G0 [(0, _), (2, _), (3, _)] _ (fun (i : Nat) => i ≤ l.length) (fun (i : Nat) => [.arr v7 101 3 ((l.take i).map TWrite.cs ++ List.replicate (l.length - i) [AV.str [], AV.str [], AV.bool false])]) (fun (i : Nat) => [(4, AV.int i)]) (fun (i : Nat) => l.length - i) (0) ?_ (M7 (by simp only [A6]; rfl) ⟨rfl, rfl, rfl, rfl, trivial⟩) ?_
 ·exact Nat.zero_le _
 intro i hinv
 refine A3 (A3 (A2 ?_))
 refine A5 rfl ?_
 refine A5 rfl ?_
 refine A1 rfl (E4 rfl N3 (A0 rfl)) ?_
 refine A1 rfl (F8 rfl (A0 rfl) (A0 rfl)) ?_
 refine A4 ?_
 refine B8 (A0 rfl) ?_ ?_
 ·intro h11
  have k11 := of_decide_eq_true h11; try simp only [A6] at k11
  have hlt : i < l.length := by omega
  obtain ⟨x, hx⟩ := get_some hlt
  have hsx : TWrite.size x ≤ 1048576 := Nat.le_trans (O3 hx) hs
  refine B9 (A3 (C5 (A2 ?_)))
  refine A5 rfl ?_
  refine A5 rfl ?_
  refine A5 rfl ?_
  refine A5 rfl ?_
  refine A1 rfl (M1 rfl N3 Tryz.sizeOf219 (A0 rfl) (A0 rfl) (by omega) (by simp only [Int.toNat_natCast, List.getElem?_map, hx, Option.map_some]; try rfl)) ?_
  refine A1 rfl (G8 rfl (A0 rfl) Tryz.isAgg219 Tryz.sizeOf219) ?_
  refine A1 rfl (D4 rfl Tryz.call184 rfl (AG9 _ (by first | assumption | omega | (simp only [] at *; omega))) (A9 (A0 rfl) C6)) ?_
  refine A1 rfl (S7 0 rfl E6 F7 (A0 rfl) rfl (A0 rfl) (by omega) (by rw [O7 hinv]; omega)) ?_
  refine T1 0 rfl rfl rfl (A0 rfl) (A0 rfl) (I6 _) rfl F7 rfl (by rw [O7 hinv]; omega) ?_
  refine A4 (A2 ?_)
  refine A5 rfl ?_
  refine A1 rfl (G6 rfl (A0 rfl) B3 (by first | omega | (simp only [D1, B1, szR] at *; omega))) ?_
  refine B5 rfl ?_
  refine A4 ?_
  refine G9 i (i + 1) ?_ ?_ (M7 (by exact congrArg (fun z => [Own.arr v7 101 3 z]) (V1 hx)) ⟨rfl, rfl, rfl, rfl, trivial⟩)
  ·omega
  omega
 intro h11
 have k11 := of_decide_eq_false h11; try simp only [A6] at k11
 have hge : l.length ≤ i := by omega
 rw [V2 hge]
 refine F3 ?_
 refine A3 (A2 ?_)
 refine A5 rfl ?_
 refine B5 rfl ?_
 refine A4 ?_
 refine B7 ?_
 refine V0 0 2 rfl rfl ?_
 exact D7 rfl (B6 rfl (by first | rfl | (refine congrArg AV.bool ?_; simp_all; done)))
theorem AD7 (a b : List TWrite) : FSpec Tryz.prog 148 [AV.list 3 (a.map TWrite.cs), AV.list 3 (b.map TWrite.cs)] (AV.bool (decide (a = b))) := by
 refine C1 Tryz.func148 rfl Tryz.ntmps148 rfl ?_
 refine J7 (t := 0) rfl fun hl => ?_
 try simp only [A6] at hl
 refine A3 (A2 ?_)
 refine A1 rfl (A8 rfl D8) ?_
 refine A4 (A3 (A3 (A2 ?_)))
 refine A5 rfl ?_
 refine A1 rfl (E4 rfl E6 (A0 rfl)) ?_
 refine A5 rfl ?_
 refine A1 rfl (E4 rfl E6 (A0 rfl)) ?_
 refine A1 rfl (Q4 rfl (A0 rfl) (A0 rfl)) ?_
 refine A4 ?_
 refine B8 (A0 rfl) ?_ ?_
 ·intro h10
  have k10 := N5 h10; try simp only [A6] at k10
  have hab : a ≠ b := by intro hc; subst hc; exact k10 rfl
  refine A3 (A2 ?_)
  refine A1 rfl (A8 rfl D8) ?_
  refine A4 ?_
  refine B7 ?_
  exact D7 rfl (B6 rfl (by exact congrArg AV.bool (by simp [hab])))
 intro h10
 have k10 := K0 h10; try simp only [A6] at k10
 have heq : a.length = b.length := by omega
 refine B9 (A3 (A3 (A2 ?_)))
 refine A1 rfl (A8 rfl B3) ?_
 refine A4 (C5 ?_)
 refine G0 [(0, _), (1, _)] _ (fun (i : Nat) => i ≤ a.length ∧ a.take i = b.take i) (fun (i : Nat) => []) (fun (i : Nat) => [(5, AV.int i)]) (fun (i : Nat) => a.length - i) (0) ?_ (G1 ⟨rfl, rfl, rfl, trivial⟩) ?_
 ·exact ⟨Nat.zero_le _, rfl⟩
 intro i hinv
 refine A3 (A3 (A2 ?_))
 refine A5 rfl ?_
 refine A5 rfl ?_
 refine A1 rfl (E4 rfl E6 (A0 rfl)) ?_
 refine A1 rfl (F8 rfl (A0 rfl) (A0 rfl)) ?_
 refine A4 ?_
 refine B8 (A0 rfl) ?_ ?_
 ·intro h14
  have k14 := of_decide_eq_true h14; try simp only [A6] at k14
  have hlt : i < a.length := by omega
  obtain ⟨x, hx⟩ := get_some hlt
  obtain ⟨y, hy⟩ := get_some (show i < b.length by omega)
  refine B9 (A3 (C5 (A3 ?_)))
  refine H5 (by kernel_rfl) (by kernel_rfl) rfl ?_
  refine B4 rfl rfl (C3 rfl (A0 rfl)) ?_
  refine B4 rfl rfl (C3 rfl (A0 rfl)) ?_
  refine B4 rfl rfl (M1 rfl E6 F7 (A0 rfl) (A0 rfl) (by omega) (by simp only [Int.toNat_natCast, List.getElem?_map, hx, Option.map_some]; try rfl)) ?_
  refine B4 rfl rfl (G8 rfl (A0 rfl) L5 F7) ?_
  refine B4 rfl rfl (C3 rfl (A0 rfl)) ?_
  refine B4 rfl rfl (C3 rfl (A0 rfl)) ?_
  refine B4 rfl rfl (M1 rfl E6 F7 (A0 rfl) (A0 rfl) (by omega) (by simp only [Int.toNat_natCast, List.getElem?_map, hy, Option.map_some]; try rfl)) ?_
  refine B4 rfl rfl (G8 rfl (A0 rfl) L5 F7) ?_
  refine B4 rfl rfl (D4 rfl Tryz.call192 rfl (AH0 _ _) (A9 (A0 rfl) (A9 (A0 rfl) C6))) ?_
  refine B4 rfl rfl (I3 rfl (A0 rfl)) ?_
  refine M6 ?_
  refine B8 (A0 rfl) ?_ ?_
  ·intro h26
   have hab : a ≠ b := by intro hc; subst hc; rw [hx] at hy; injection hy with hy; subst hy; simp at h26
   refine A3 (A2 ?_)
   refine A1 rfl (A8 rfl D8) ?_
   refine A4 ?_
   refine B7 ?_
   exact D7 rfl (B6 rfl (by exact congrArg AV.bool (by simp [hab])))
  intro h26
  refine B9 (A2 ?_)
  refine A5 rfl ?_
  refine A1 rfl (G6 rfl (A0 rfl) B3 (by first | omega | (simp only [D1, B1, szR] at *; omega))) ?_
  refine B5 rfl ?_
  refine A4 ?_
  refine G9 i (i + 1) ?_ ?_ (G1 ⟨rfl, rfl, rfl, trivial⟩)
  ·exact ⟨by omega, R4 hinv.2 hx (by rw [hy]; congr 1; simp_all)⟩
  omega
 intro h14
 have k14 := of_decide_eq_false h14; try simp only [A6] at k14
 have hge : a.length ≤ i := by omega
 have hab : a = b := T6 heq hinv.2 hge
 refine F3 ?_
 refine A3 (A2 ?_)
 refine A1 rfl (A8 rfl D8) ?_
 refine A4 ?_
 refine B7 ?_
 exact D7 rfl (B6 rfl (by exact congrArg AV.bool (by simp [hab])))
theorem AQ9 (a : TVer) (left : Int) (hok : a.ok) (h0 : 0 ≤ left) (h1 : left ≤ 1048576) : FSpec Tryz.prog 181 [AV.agg a.cs, AV.int left] (AV.int (szR a.size left)) := by
 have oVal := hok; unfold TVer.ok at oVal
 refine C1 Tryz.func181 rfl Tryz.ntmps181 rfl ?_
 refine A3 (A2 ?_)
 refine I2 rfl rfl rfl rfl (A0 rfl) ?_
 intro b2
 refine A1 rfl (A8 rfl B3) ?_
 refine A4 (A3 (A2 ?_))
 refine A5 rfl ?_
 refine A1 rfl (B2 1 rfl Tryz.underlying217 rfl D2 (A0 rfl) rfl) ?_
 refine A1 rfl (B0 0 rfl (A0 rfl) rfl E5 rfl) ?_
 refine A1 rfl (T8 rfl H6 (A0 rfl)) ?_
 refine A1 rfl (L1 rfl (A0 rfl) (A0 rfl) (by first | omega | (simp only [D1, B1, szR] at *; omega))) ?_
 refine B5 rfl ?_
 refine A4 (A3 (A3 (A2 ?_)))
 refine A5 rfl ?_
 refine A1 rfl (F8 rfl (A0 rfl) B3) ?_
 refine A4 ?_
 refine B8 (A0 rfl) ?_ ?_
 ·intro h11
  have k11 := of_decide_eq_true h11; try simp only [A6] at k11
  refine A3 (A2 ?_)
  refine A1 rfl (A8 rfl B3) ?_
  refine A4 ?_
  refine B7 ?_
  exact D7 rfl (B6 rfl (by exact congrArg AV.int (by simp only [szR, TVer.size, decide_eq_true_eq, decide_eq_false_iff_not] at *; omega)))
 intro h11
 have k11 := of_decide_eq_false h11; try simp only [A6] at k11
 refine B9 (A3 (A2 ?_))
 refine A5 rfl ?_
 refine B5 rfl ?_
 refine A4 ?_
 refine B7 ?_
 exact D7 rfl (B6 rfl (by exact congrArg AV.int (by simp only [szR, TVer.size, decide_eq_true_eq, decide_eq_false_iff_not] at *; omega)))
theorem AR0 (a : TVer) (hs : a.size ≤ 1048576) : FSpec Tryz.prog 183 [AV.agg a.cs] (AV.agg a.cs) := by
 unfold TVer.size at hs
 refine C1 Tryz.func183 rfl Tryz.ntmps183 rfl ?_
 refine A3 (A2 ?_)
 refine I2 rfl rfl rfl rfl (A0 rfl) ?_
 intro b1
 refine H4 rfl rfl rfl rfl Tryz.zeroValue127 rfl ?_
 intro b2
 refine A4 (A3 (A2 ?_))
 refine H4 rfl rfl rfl rfl Tryz.zeroValue127 rfl ?_
 intro b3
 refine A4 (A3 (A2 ?_))
 refine A1 rfl (B2 0 rfl Tryz.underlying217 rfl C2 (A0 rfl) rfl) ?_
 refine A1 rfl (B0 2 rfl (A0 rfl) rfl D0 rfl) ?_
 refine A1 rfl (B2 0 rfl H3 rfl C2 (A0 rfl) rfl) ?_
 refine K7 0 rfl rfl rfl (A0 rfl) (A0 rfl) (T4 _ _) rfl C2 rfl ?_
 refine A4 (A3 (A2 ?_))
 refine A1 rfl (B2 1 rfl Tryz.underlying217 rfl D2 (A0 rfl) rfl) ?_
 refine A1 rfl (B0 2 rfl (A0 rfl) rfl E5 rfl) ?_
 refine A1 rfl (B2 1 rfl H3 rfl D2 (A0 rfl) rfl) ?_
 refine K7 0 rfl rfl rfl (A0 rfl) (A0 rfl) (U8 _) rfl D2 rfl ?_
 refine A4 (A3 (A2 ?_))
 refine A1 rfl (B2 2 rfl Tryz.underlying217 rfl G7 (A0 rfl) rfl) ?_
 refine A1 rfl (B0 2 rfl (A0 rfl) rfl H9 rfl) ?_
 refine A1 rfl (B2 2 rfl H3 rfl G7 (A0 rfl) rfl) ?_
 refine K7 0 rfl rfl rfl (A0 rfl) (A0 rfl) (w9 _) rfl G7 rfl ?_
 refine A4 (A3 (A2 ?_))
 refine A1 rfl (M0 0 rfl (A0 rfl) rfl S9 I7 rfl) ?_
 refine H1 1 rfl rfl rfl (A0 rfl) (A0 rfl) (I6 _) rfl I7 rfl ?_
 refine A4 ?_
 refine B7 ?_
 exact D7 rfl (U1 (ys := _) 1 rfl rfl S9 I7 rfl)
theorem AR1 (a b : TVer) : FSpec Tryz.prog 191 [AV.agg a.cs, AV.agg b.cs] (AV.bool (decide (a = b))) := by
 refine C1 Tryz.func191 rfl Tryz.ntmps191 rfl ?_
 refine A3 (A2 ?_)
 refine I2 rfl rfl rfl rfl (A0 rfl) ?_
 intro b2
 refine I2 rfl rfl rfl rfl (A0 rfl) ?_
 intro b3
 refine A1 rfl (A8 rfl D8) ?_
 refine A4 (A3 (A3 (A2 ?_)))
 refine A1 rfl (B2 0 rfl H3 rfl C2 (A0 rfl) rfl) ?_
 refine A1 rfl (B0 1 rfl (A0 rfl) rfl D0 rfl) ?_
 refine A1 rfl (B2 0 rfl H3 rfl C2 (A0 rfl) rfl) ?_
 refine A1 rfl (B0 0 rfl (A0 rfl) rfl D0 rfl) ?_
 refine A1 rfl (Q4 rfl (A0 rfl) (A0 rfl)) ?_
 refine A4 ?_
 refine B8 (A0 rfl) ?_ ?_
 ·intro h9
  have k9 := N5 h9; try simp only [A6] at k9
  refine A3 (A2 ?_)
  refine A1 rfl (A8 rfl D8) ?_
  refine A4 ?_
  refine B7 ?_
  exact D7 rfl (B6 rfl (by exact congrArg AV.bool (by cases a; cases b; simp_all)))
 intro h9
 have k9 := K0 h9; try simp only [A6] at k9
 refine B9 (A3 (A3 (A2 ?_)))
 refine A1 rfl (B2 1 rfl H3 rfl D2 (A0 rfl) rfl) ?_
 refine A1 rfl (B0 1 rfl (A0 rfl) rfl E5 rfl) ?_
 refine A1 rfl (B2 1 rfl H3 rfl D2 (A0 rfl) rfl) ?_
 refine A1 rfl (B0 0 rfl (A0 rfl) rfl E5 rfl) ?_
 refine A1 rfl (Y8 rfl (A0 rfl) (A0 rfl)) ?_
 refine A4 ?_
 refine B8 (A0 rfl) ?_ ?_
 ·intro h14
  refine A3 (A2 ?_)
  refine A1 rfl (A8 rfl D8) ?_
  refine A4 ?_
  refine B7 ?_
  exact D7 rfl (B6 rfl (by exact congrArg AV.bool (by cases a; cases b; simp_all)))
 intro h14
 refine B9 (A3 (A3 (A2 ?_)))
 refine A1 rfl (B2 2 rfl H3 rfl G7 (A0 rfl) rfl) ?_
 refine A1 rfl (B0 1 rfl (A0 rfl) rfl H9 rfl) ?_
 refine A1 rfl (B2 2 rfl H3 rfl G7 (A0 rfl) rfl) ?_
 refine A1 rfl (B0 0 rfl (A0 rfl) rfl H9 rfl) ?_
 refine A1 rfl (s5 rfl O8 (A0 rfl) (A0 rfl)) ?_
 refine A4 ?_
 refine B8 (A0 rfl) ?_ ?_
 ·intro h19
  refine A3 (A2 ?_)
  refine A1 rfl (A8 rfl D8) ?_
  refine A4 ?_
  refine B7 ?_
  exact D7 rfl (B6 rfl (by exact congrArg AV.bool (by cases a; cases b; simp_all)))
 intro h19
 refine B9 (A3 (A2 ?_))
 refine A1 rfl (A8 rfl D8) ?_
 refine A4 ?_
 refine B7 ?_
 exact D7 rfl (B6 rfl (by exact congrArg AV.bool (by cases a; cases b; simp_all)))
theorem AL4 (l : List TVer) (left : Int) (hok : (∀ x ∈ l, x.ok)) (h0 : 0 ≤ left) (h1 : left ≤ 1048576) : FSpec Tryz.prog 130 [AV.list 3 (l.map TVer.cs), AV.int left] (AV.int (szR (sizeL TVer.size l) left)) := by
 refine C1 Tryz.func130 rfl Tryz.ntmps130 rfl ?_
 refine J7 (t := 0) rfl fun hl => ?_
 try simp only [A6] at hl
 refine A3 (A2 ?_)
 refine A1 rfl (A8 rfl B3) ?_
 refine A4 (A3 (A2 ?_))
 refine A5 rfl ?_
 refine A5 rfl ?_
 refine A1 rfl (E4 rfl N4 (A0 rfl)) ?_
 refine A1 rfl (L1 rfl (A0 rfl) (A0 rfl) (by first | omega | (simp only [D1, B1, szR] at *; omega))) ?_
 refine B5 rfl ?_
 refine A4 (A3 (A3 (A2 ?_)))
 refine A5 rfl ?_
 refine A1 rfl (F8 rfl (A0 rfl) B3) ?_
 refine A4 ?_
 refine B8 (A0 rfl) ?_ ?_
 ·intro h11
  have k11 := of_decide_eq_true h11; try simp only [A6] at k11
  refine A3 (A2 ?_)
  refine A1 rfl (A8 rfl B3) ?_
  refine A4 ?_
  refine B7 ?_
  exact D7 rfl (B6 rfl (by exact congrArg AV.int (by simp only [szR, sizeL, A6, decide_eq_true_eq, decide_eq_false_iff_not] at *; omega)))
 intro h11
 have k11 := of_decide_eq_false h11; try simp only [A6] at k11
 refine B9 (A3 (A3 (A2 ?_)))
 refine A1 rfl (A8 rfl B3) ?_
 refine A4 (C5 ?_)
 refine M3 [(0, _)] _ (fun (i : Nat) (b : Int) => i ≤ l.length ∧ b = left - l.length - (((l.take i).map TVer.size).sum : Nat) ∧ 0 ≤ b) (fun (i : Nat) (b : Int) => []) (fun (i : Nat) (b : Int) => [(1, AV.int b), (5, AV.int i)]) (fun (i : Nat) (b : Int) => l.length - i) (0) (left - ((l.map fun x => TVer.cs x).length : Int)) ?_ (G1 ⟨rfl, rfl, rfl, trivial⟩) ?_
 ·exact ⟨Nat.zero_le _, by simp, by simp only [A6]; omega⟩
 intro i b hinv
 refine A3 (A3 (A2 ?_))
 refine A5 rfl ?_
 refine A5 rfl ?_
 refine A1 rfl (E4 rfl N4 (A0 rfl)) ?_
 refine A1 rfl (F8 rfl (A0 rfl) (A0 rfl)) ?_
 refine A4 ?_
 refine B8 (A0 rfl) ?_ ?_
 ·intro h15
  have k15 := of_decide_eq_true h15; try simp only [A6] at k15
  have hlt : i < l.length := by omega
  obtain ⟨x, hx⟩ := get_some hlt
  have e2 := Z3 TVer.size l i x hx
  have hokx := hok x (H0 hx)
  refine B9 (A3 (C5 (A3 (A2 ?_))))
  refine A5 rfl ?_
  refine A5 rfl ?_
  refine A1 rfl (M1 rfl N4 Tryz.sizeOf217 (A0 rfl) (A0 rfl) (by omega) (by simp only [Int.toNat_natCast, List.getElem?_map, hx, Option.map_some]; try rfl)) ?_
  refine A1 rfl (G8 rfl (A0 rfl) Tryz.isAgg217 Tryz.sizeOf217) ?_
  refine A5 rfl ?_
  refine A1 rfl (D4 rfl Tryz.call181 rfl (AQ9 _ _ (by assumption) (by first | omega | (simp only [D1, B1, szR] at *; omega)) (by first | omega | (simp only [D1, B1, szR] at *; omega))) (A9 (A0 rfl) (A9 (A0 rfl) C6))) ?_
  refine B5 rfl ?_
  refine A4 (A3 (A2 ?_))
  refine A5 rfl ?_
  refine A1 rfl (F8 rfl (A0 rfl) B3) ?_
  refine A4 ?_
  refine B8 (A0 rfl) ?_ ?_
  ·intro h25
   have k25 := of_decide_eq_true h25; try simp only [A6] at k25
   refine A3 (A2 ?_)
   refine A1 rfl (A8 rfl B3) ?_
   refine A4 ?_
   refine B7 ?_
   exact D7 rfl (B6 rfl (by exact congrArg AV.int (by simp only [szR, sizeL, A6, decide_eq_true_eq, decide_eq_false_iff_not] at *; omega)))
  intro h25
  have k25 := of_decide_eq_false h25; try simp only [A6] at k25
  refine B9 (A2 ?_)
  refine A5 rfl ?_
  refine A1 rfl (G6 rfl (A0 rfl) B3 (by first | omega | (simp only [D1, B1, szR] at *; omega))) ?_
  refine B5 rfl ?_
  refine A4 ?_
  refine L8 i b (i + 1) ((szR (TVer.size x) b)) ?_ ?_ (G1 ⟨rfl, rfl, rfl, trivial⟩)
  ·exact ⟨by omega, by have e1 := W4 TVer.size l i x hx; simp only [szR, decide_eq_false_iff_not] at *; omega, by omega⟩
  omega
 intro h15
 have k15 := of_decide_eq_false h15; try simp only [A6] at k15
 have hge : l.length ≤ i := by omega
 have e3 : ((l.take i).map TVer.size).sum = (l.map TVer.size).sum := by rw [List.take_of_length_le hge]
 refine F3 ?_
 refine A3 (A2 ?_)
 refine A5 rfl ?_
 refine B5 rfl ?_
 refine A4 ?_
 refine B7 ?_
 exact D7 rfl (B6 rfl (by exact congrArg AV.int (by simp only [szR, sizeL, A6, decide_eq_true_eq, decide_eq_false_iff_not] at *; omega)))
theorem AL5 (l : List TVer) (hs : sizeL TVer.size l ≤ 1048576) : FSpec Tryz.prog 133 [AV.list 3 (l.map TVer.cs)] (AV.list 3 (l.map TVer.cs)) := by
 have hsl : l.length ≤ 1048576 := Nat.le_trans K9 hs
 refine C1 Tryz.func133 rfl Tryz.ntmps133 rfl ?_
 refine A3 (A2 ?_)
 refine A1 rfl (A8 rfl (V5 (sz := 3))) ?_
 refine A4 (A3 (A2 ?_))
 refine A5 rfl ?_
 refine A1 rfl (E4 rfl N4 (A0 rfl)) ?_
 refine X6 (by' := 32) rfl rfl rfl rfl H2 Tryz.type127 rfl rfl rfl rfl rfl rfl (A0 rfl) (A0 rfl) (by simp only [A6]; omega) (by simp only [A6]; omega) ?_
 intro v7
 refine B5 rfl ?_
 refine A4 (A3 (A3 (A2 ?_)))
 refine A1 rfl (A8 rfl B3) ?_
 refine A4 (C5 ?_)
 refine G0 [(0, _), (2, _), (3, _)] _ (fun (i : Nat) => i ≤ l.length) (fun (i : Nat) => [.arr v7 127 3 ((l.take i).map TVer.cs ++ List.replicate (l.length - i) [AV.int 0, AV.str [], AV.bool false])]) (fun (i : Nat) => [(4, AV.int i)]) (fun (i : Nat) => l.length - i) (0) ?_ (M7 (by simp only [A6]; rfl) ⟨rfl, rfl, rfl, rfl, trivial⟩) ?_
 ·exact Nat.zero_le _
 intro i hinv
 refine A3 (A3 (A2 ?_))
 refine A5 rfl ?_
 refine A5 rfl ?_
 refine A1 rfl (E4 rfl N4 (A0 rfl)) ?_
 refine A1 rfl (F8 rfl (A0 rfl) (A0 rfl)) ?_
 refine A4 ?_
 refine B8 (A0 rfl) ?_ ?_
 ·intro h11
  have k11 := of_decide_eq_true h11; try simp only [A6] at k11
  have hlt : i < l.length := by omega
  obtain ⟨x, hx⟩ := get_some hlt
  have hsx : TVer.size x ≤ 1048576 := Nat.le_trans (O3 hx) hs
  refine B9 (A3 (C5 (A2 ?_)))
  refine A5 rfl ?_
  refine A5 rfl ?_
  refine A5 rfl ?_
  refine A5 rfl ?_
  refine A1 rfl (M1 rfl N4 Tryz.sizeOf217 (A0 rfl) (A0 rfl) (by omega) (by simp only [Int.toNat_natCast, List.getElem?_map, hx, Option.map_some]; try rfl)) ?_
  refine A1 rfl (G8 rfl (A0 rfl) Tryz.isAgg217 Tryz.sizeOf217) ?_
  refine A1 rfl (D4 rfl Tryz.call183 rfl (AR0 _ (by first | assumption | omega | (simp only [] at *; omega))) (A9 (A0 rfl) C6)) ?_
  refine A1 rfl (S7 0 rfl H2 I7 (A0 rfl) rfl (A0 rfl) (by omega) (by rw [O7 hinv]; omega)) ?_
  refine T1 0 rfl rfl rfl (A0 rfl) (A0 rfl) (I6 _) rfl I7 rfl (by rw [O7 hinv]; omega) ?_
  refine A4 (A2 ?_)
  refine A5 rfl ?_
  refine A1 rfl (G6 rfl (A0 rfl) B3 (by first | omega | (simp only [D1, B1, szR] at *; omega))) ?_
  refine B5 rfl ?_
  refine A4 ?_
  refine G9 i (i + 1) ?_ ?_ (M7 (by exact congrArg (fun z => [Own.arr v7 127 3 z]) (V1 hx)) ⟨rfl, rfl, rfl, rfl, trivial⟩)
  ·omega
  omega
 intro h11
 have k11 := of_decide_eq_false h11; try simp only [A6] at k11
 have hge : l.length ≤ i := by omega
 rw [V2 hge]
 refine F3 ?_
 refine A3 (A2 ?_)
 refine A5 rfl ?_
 refine B5 rfl ?_
 refine A4 ?_
 refine B7 ?_
 refine V0 0 2 rfl rfl ?_
 exact D7 rfl (B6 rfl (by first | rfl | (refine congrArg AV.bool ?_; simp_all; done)))
theorem AL6 (a b : List TVer) : FSpec Tryz.prog 146 [AV.list 3 (a.map TVer.cs), AV.list 3 (b.map TVer.cs)] (AV.bool (decide (a = b))) := by
 refine C1 Tryz.func146 rfl Tryz.ntmps146 rfl ?_
 refine J7 (t := 0) rfl fun hl => ?_
 try simp only [A6] at hl
 refine A3 (A2 ?_)
 refine A1 rfl (A8 rfl D8) ?_
 refine A4 (A3 (A3 (A2 ?_)))
 refine A5 rfl ?_
 refine A1 rfl (E4 rfl H2 (A0 rfl)) ?_
 refine A5 rfl ?_
 refine A1 rfl (E4 rfl H2 (A0 rfl)) ?_
 refine A1 rfl (Q4 rfl (A0 rfl) (A0 rfl)) ?_
 refine A4 ?_
 refine B8 (A0 rfl) ?_ ?_
 ·intro h10
  have k10 := N5 h10; try simp only [A6] at k10
  have hab : a ≠ b := by intro hc; subst hc; exact k10 rfl
  refine A3 (A2 ?_)
  refine A1 rfl (A8 rfl D8) ?_
  refine A4 ?_
  refine B7 ?_
  exact D7 rfl (B6 rfl (by exact congrArg AV.bool (by simp [hab])))
 intro h10
 have k10 := K0 h10; try simp only [A6] at k10
 have heq : a.length = b.length := by omega
 refine B9 (A3 (A3 (A2 ?_)))
 refine A1 rfl (A8 rfl B3) ?_
 refine A4 (C5 ?_)
 refine G0 [(0, _), (1, _)] _ (fun (i : Nat) => i ≤ a.length ∧ a.take i = b.take i) (fun (i : Nat) => []) (fun (i : Nat) => [(5, AV.int i)]) (fun (i : Nat) => a.length - i) (0) ?_ (G1 ⟨rfl, rfl, rfl, trivial⟩) ?_
 ·exact ⟨Nat.zero_le _, rfl⟩
 intro i hinv
 refine A3 (A3 (A2 ?_))
 refine A5 rfl ?_
 refine A5 rfl ?_
 refine A1 rfl (E4 rfl H2 (A0 rfl)) ?_
 refine A1 rfl (F8 rfl (A0 rfl) (A0 rfl)) ?_
 refine A4 ?_
 refine B8 (A0 rfl) ?_ ?_
 ·intro h14
  have k14 := of_decide_eq_true h14; try simp only [A6] at k14
  have hlt : i < a.length := by omega
  obtain ⟨x, hx⟩ := get_some hlt
  obtain ⟨y, hy⟩ := get_some (show i < b.length by omega)
  refine B9 (A3 (C5 (A3 ?_)))
  refine H5 (by kernel_rfl) (by kernel_rfl) rfl ?_
  refine B4 rfl rfl (C3 rfl (A0 rfl)) ?_
  refine B4 rfl rfl (C3 rfl (A0 rfl)) ?_
  refine B4 rfl rfl (M1 rfl H2 I7 (A0 rfl) (A0 rfl) (by omega) (by simp only [Int.toNat_natCast, List.getElem?_map, hx, Option.map_some]; try rfl)) ?_
  refine B4 rfl rfl (G8 rfl (A0 rfl) S9 I7) ?_
  refine B4 rfl rfl (C3 rfl (A0 rfl)) ?_
  refine B4 rfl rfl (C3 rfl (A0 rfl)) ?_
  refine B4 rfl rfl (M1 rfl H2 I7 (A0 rfl) (A0 rfl) (by omega) (by simp only [Int.toNat_natCast, List.getElem?_map, hy, Option.map_some]; try rfl)) ?_
  refine B4 rfl rfl (G8 rfl (A0 rfl) S9 I7) ?_
  refine B4 rfl rfl (D4 rfl Tryz.call191 rfl (AR1 _ _) (A9 (A0 rfl) (A9 (A0 rfl) C6))) ?_
  refine B4 rfl rfl (I3 rfl (A0 rfl)) ?_
  refine M6 ?_
  refine B8 (A0 rfl) ?_ ?_
  ·intro h26
   have hab : a ≠ b := by intro hc; subst hc; rw [hx] at hy; injection hy with hy; subst hy; simp at h26
   refine A3 (A2 ?_)
   refine A1 rfl (A8 rfl D8) ?_
   refine A4 ?_
   refine B7 ?_
   exact D7 rfl (B6 rfl (by exact congrArg AV.bool (by simp [hab])))
  intro h26
  refine B9 (A2 ?_)
  refine A5 rfl ?_
  refine A1 rfl (G6 rfl (A0 rfl) B3 (by first | omega | (simp only [D1, B1, szR] at *; omega))) ?_
  refine B5 rfl ?_
  refine A4 ?_
  refine G9 i (i + 1) ?_ ?_ (G1 ⟨rfl, rfl, rfl, trivial⟩)
  ·exact ⟨by omega, R4 hinv.2 hx (by rw [hy]; congr 1; simp_all)⟩
  omega
 intro h14
 have k14 := of_decide_eq_false h14; try simp only [A6] at k14
 have hge : a.length ≤ i := by omega
 have hab : a = b := T6 heq hinv.2 hge
 refine F3 ?_
 refine A3 (A2 ?_)
 refine A1 rfl (A8 rfl D8) ?_
 refine A4 ?_
 refine B7 ?_
 exact D7 rfl (B6 rfl (by exact congrArg AV.bool (by simp [hab])))
theorem AL7 (a : TCell) (left : Int) (hok : a.ok) (h0 : 0 ≤ left) (h1 : left ≤ 1048576) : FSpec Tryz.prog 86 [AV.agg a.cs, AV.int left] (AV.int (szR a.size left)) := by
 obtain ⟨oKey, oVers⟩ := hok
 refine C1 Tryz.func86 rfl Tryz.ntmps86 rfl ?_
 refine A3 (A2 ?_)
 refine I2 rfl rfl rfl rfl (A0 rfl) ?_
 intro b2
 refine A1 rfl (A8 rfl B3) ?_
 refine A4 (A3 (A2 ?_))
 refine A5 rfl ?_
 refine A1 rfl (B2 0 rfl Tryz.underlying134 rfl D2 (A0 rfl) rfl) ?_
 refine A1 rfl (B0 0 rfl (A0 rfl) rfl E5 rfl) ?_
 refine A1 rfl (T8 rfl H6 (A0 rfl)) ?_
 refine A1 rfl (L1 rfl (A0 rfl) (A0 rfl) (by first | omega | (simp only [D1, B1, szR] at *; omega))) ?_
 refine B5 rfl ?_
 refine A4 (A3 (A3 (A2 ?_)))
 refine A5 rfl ?_
 refine A1 rfl (F8 rfl (A0 rfl) B3) ?_
 refine A4 ?_
 refine B8 (A0 rfl) ?_ ?_
 ·intro h11
  have k11 := of_decide_eq_true h11; try simp only [A6] at k11
  refine A3 (A2 ?_)
  refine A1 rfl (A8 rfl B3) ?_
  refine A4 ?_
  refine B7 ?_
  exact D7 rfl (B6 rfl (by exact congrArg AV.int (by simp only [szR, TCell.size, decide_eq_true_eq, decide_eq_false_iff_not] at *; omega)))
 intro h11
 have k11 := of_decide_eq_false h11; try simp only [A6] at k11
 refine B9 (A3 (A2 ?_))
 refine A1 rfl (B2 1 rfl Tryz.underlying134 rfl Tryz.sizeOf132 (A0 rfl) rfl) ?_
 refine A1 rfl (B0 0 rfl (A0 rfl) rfl Tryz.isAgg132 rfl) ?_
 refine A5 rfl ?_
 refine A1 rfl (D4 rfl Tryz.call130 rfl (AL4 _ _ (by first | assumption | trivial) (by first | omega | (simp only [D1, B1, szR] at *; omega)) (by first | omega | (simp only [D1, B1, szR] at *; omega))) (A9 (A0 rfl) (A9 (A0 rfl) C6))) ?_
 refine B5 rfl ?_
 refine A4 (A3 (A3 (A2 ?_)))
 refine A5 rfl ?_
 refine A1 rfl (F8 rfl (A0 rfl) B3) ?_
 refine A4 ?_
 refine B8 (A0 rfl) ?_ ?_
 ·intro h17
  have k17 := of_decide_eq_true h17; try simp only [A6] at k17
  refine A3 (A2 ?_)
  refine A1 rfl (A8 rfl B3) ?_
  refine A4 ?_
  refine B7 ?_
  exact D7 rfl (B6 rfl (by exact congrArg AV.int (by simp only [szR, TCell.size, decide_eq_true_eq, decide_eq_false_iff_not] at *; omega)))
 intro h17
 have k17 := of_decide_eq_false h17; try simp only [A6] at k17
 refine B9 (A3 (A2 ?_))
 refine A5 rfl ?_
 refine B5 rfl ?_
 refine A4 ?_
 refine B7 ?_
 exact D7 rfl (B6 rfl (by exact congrArg AV.int (by simp only [szR, TCell.size, decide_eq_true_eq, decide_eq_false_iff_not] at *; omega)))
theorem AL8 (a : TCell) (hs : a.size ≤ 1048576) : FSpec Tryz.prog 88 [AV.agg a.cs] (AV.agg a.cs) := by
 unfold TCell.size at hs
 refine C1 Tryz.func88 rfl Tryz.ntmps88 rfl ?_
 refine A3 (A2 ?_)
 refine I2 rfl rfl rfl rfl (A0 rfl) ?_
 intro b1
 refine H4 rfl rfl rfl rfl Tryz.zeroValue125 rfl ?_
 intro b2
 refine A4 (A3 (A2 ?_))
 refine H4 rfl rfl rfl rfl Tryz.zeroValue125 rfl ?_
 intro b3
 refine A4 (A3 (A2 ?_))
 refine A1 rfl (B2 0 rfl Tryz.underlying134 rfl D2 (A0 rfl) rfl) ?_
 refine A1 rfl (B0 2 rfl (A0 rfl) rfl E5 rfl) ?_
 refine A1 rfl (B2 0 rfl F6 rfl D2 (A0 rfl) rfl) ?_
 refine K7 0 rfl rfl rfl (A0 rfl) (A0 rfl) (U8 _) rfl D2 rfl ?_
 refine A4 (A3 (A2 ?_))
 refine A1 rfl (B2 1 rfl Tryz.underlying134 rfl Tryz.sizeOf132 (A0 rfl) rfl) ?_
 refine A1 rfl (B0 2 rfl (A0 rfl) rfl Tryz.isAgg132 rfl) ?_
 refine A1 rfl (D4 rfl Tryz.call133 rfl (AL5 _ (by first | assumption | omega)) (A9 (A0 rfl) C6)) ?_
 refine A1 rfl (B2 1 rfl F6 rfl K2 (A0 rfl) rfl) ?_
 refine K7 0 rfl rfl rfl (A0 rfl) (A0 rfl) (U2 _ _) rfl K2 rfl ?_
 refine A4 (A3 (A2 ?_))
 refine A1 rfl (M0 0 rfl (A0 rfl) rfl L2 E8 rfl) ?_
 refine H1 1 rfl rfl rfl (A0 rfl) (A0 rfl) (I6 _) rfl E8 rfl ?_
 refine A4 ?_
 refine B7 ?_
 exact D7 rfl (U1 (ys := _) 1 rfl rfl L2 E8 rfl)
theorem AL9 (a b : TCell) : FSpec Tryz.prog 95 [AV.agg a.cs, AV.agg b.cs] (AV.bool (decide (a = b))) := by
 refine C1 Tryz.func95 rfl Tryz.ntmps95 rfl ?_
 refine A3 (A2 ?_)
 refine I2 rfl rfl rfl rfl (A0 rfl) ?_
 intro b2
 refine I2 rfl rfl rfl rfl (A0 rfl) ?_
 intro b3
 refine A1 rfl (A8 rfl D8) ?_
 refine A4 (A3 (A3 (A2 ?_)))
 refine A1 rfl (B2 0 rfl F6 rfl D2 (A0 rfl) rfl) ?_
 refine A1 rfl (B0 1 rfl (A0 rfl) rfl E5 rfl) ?_
 refine A1 rfl (B2 0 rfl F6 rfl D2 (A0 rfl) rfl) ?_
 refine A1 rfl (B0 0 rfl (A0 rfl) rfl E5 rfl) ?_
 refine A1 rfl (Y8 rfl (A0 rfl) (A0 rfl)) ?_
 refine A4 ?_
 refine B8 (A0 rfl) ?_ ?_
 ·intro h9
  refine A3 (A2 ?_)
  refine A1 rfl (A8 rfl D8) ?_
  refine A4 ?_
  refine B7 ?_
  exact D7 rfl (B6 rfl (by exact congrArg AV.bool (by cases a; cases b; simp_all)))
 intro h9
 refine B9 (A3 (A3 (A2 ?_)))
 refine A1 rfl (B2 1 rfl F6 rfl K2 (A0 rfl) rfl) ?_
 refine A1 rfl (B0 1 rfl (A0 rfl) rfl L6 rfl) ?_
 refine A1 rfl (B2 1 rfl F6 rfl K2 (A0 rfl) rfl) ?_
 refine A1 rfl (B0 0 rfl (A0 rfl) rfl L6 rfl) ?_
 refine A1 rfl (D4 rfl Tryz.call146 rfl (AL6 _ _) (A9 (A0 rfl) (A9 (A0 rfl) C6))) ?_
 refine A1 rfl (I3 rfl (A0 rfl)) ?_
 refine A4 ?_
 refine B8 (A0 rfl) ?_ ?_
 ·intro h15
  refine A3 (A2 ?_)
  refine A1 rfl (A8 rfl D8) ?_
  refine A4 ?_
  refine B7 ?_
  exact D7 rfl (B6 rfl (by exact congrArg AV.bool (by cases a; cases b; simp_all)))
 intro h15
 refine B9 (A3 (A2 ?_))
 refine A1 rfl (A8 rfl D8) ?_
 refine A4 ?_
 refine B7 ?_
 exact D7 rfl (B6 rfl (by exact congrArg AV.bool (by cases a; cases b; simp_all)))
theorem AM0 (a : THeld) (left : Int) (hok : a.ok) (h0 : 0 ≤ left) (h1 : left ≤ 1048576) : FSpec Tryz.prog 87 [AV.agg a.cs, AV.int left] (AV.int (szR a.size left)) := by
 obtain ⟨oReads, oWrites⟩ := hok
 refine C1 Tryz.func87 rfl Tryz.ntmps87 rfl ?_
 refine A3 (A2 ?_)
 refine I2 rfl rfl rfl rfl (A0 rfl) ?_
 intro b2
 refine A1 rfl (A8 rfl B3) ?_
 refine A4 (A3 (A2 ?_))
 refine A1 rfl (B2 3 rfl M4 rfl J2 (A0 rfl) rfl) ?_
 refine A1 rfl (B0 0 rfl (A0 rfl) rfl K3 rfl) ?_
 refine A5 rfl ?_
 refine A1 rfl (D4 rfl Tryz.call131 rfl (AA0 _ _ (by first | assumption | trivial) (by first | omega | (simp only [D1, B1, szR] at *; omega)) (by first | omega | (simp only [D1, B1, szR] at *; omega))) (A9 (A0 rfl) (A9 (A0 rfl) C6))) ?_
 refine B5 rfl ?_
 refine A4 (A3 (A3 (A2 ?_)))
 refine A5 rfl ?_
 refine A1 rfl (F8 rfl (A0 rfl) B3) ?_
 refine A4 ?_
 refine B8 (A0 rfl) ?_ ?_
 ·intro h10
  have k10 := of_decide_eq_true h10; try simp only [A6] at k10
  refine A3 (A2 ?_)
  refine A1 rfl (A8 rfl B3) ?_
  refine A4 ?_
  refine B7 ?_
  exact D7 rfl (B6 rfl (by exact congrArg AV.int (by simp only [szR, THeld.size, decide_eq_true_eq, decide_eq_false_iff_not] at *; omega)))
 intro h10
 have k10 := of_decide_eq_false h10; try simp only [A6] at k10
 refine B9 (A3 (A2 ?_))
 refine A1 rfl (B2 4 rfl M4 rfl Tryz.sizeOf136 (A0 rfl) rfl) ?_
 refine A1 rfl (B0 0 rfl (A0 rfl) rfl Tryz.isAgg136 rfl) ?_
 refine A5 rfl ?_
 refine A1 rfl (D4 rfl Tryz.call132 rfl (AD5 _ _ (by first | assumption | trivial) (by first | omega | (simp only [D1, B1, szR] at *; omega)) (by first | omega | (simp only [D1, B1, szR] at *; omega))) (A9 (A0 rfl) (A9 (A0 rfl) C6))) ?_
 refine B5 rfl ?_
 refine A4 (A3 (A3 (A2 ?_)))
 refine A5 rfl ?_
 refine A1 rfl (F8 rfl (A0 rfl) B3) ?_
 refine A4 ?_
 refine B8 (A0 rfl) ?_ ?_
 ·intro h16
  have k16 := of_decide_eq_true h16; try simp only [A6] at k16
  refine A3 (A2 ?_)
  refine A1 rfl (A8 rfl B3) ?_
  refine A4 ?_
  refine B7 ?_
  exact D7 rfl (B6 rfl (by exact congrArg AV.int (by simp only [szR, THeld.size, decide_eq_true_eq, decide_eq_false_iff_not] at *; omega)))
 intro h16
 have k16 := of_decide_eq_false h16; try simp only [A6] at k16
 refine B9 (A3 (A2 ?_))
 refine A5 rfl ?_
 refine B5 rfl ?_
 refine A4 ?_
 refine B7 ?_
 exact D7 rfl (B6 rfl (by exact congrArg AV.int (by simp only [szR, THeld.size, decide_eq_true_eq, decide_eq_false_iff_not] at *; omega)))
theorem AM1 (a : THeld) (hs : a.size ≤ 1048576) : FSpec Tryz.prog 89 [AV.agg a.cs] (AV.agg a.cs) := by
 unfold THeld.size at hs
 refine C1 Tryz.func89 rfl Tryz.ntmps89 rfl ?_
 refine A3 (A2 ?_)
 refine I2 rfl rfl rfl rfl (A0 rfl) ?_
 intro b1
 refine H4 rfl rfl rfl rfl Tryz.zeroValue141 rfl ?_
 intro b2
 refine A4 (A3 (A2 ?_))
 refine H4 rfl rfl rfl rfl Tryz.zeroValue141 rfl ?_
 intro b3
 refine A4 (A3 (A2 ?_))
 refine A1 rfl (B2 0 rfl M4 rfl C2 (A0 rfl) rfl) ?_
 refine A1 rfl (B0 2 rfl (A0 rfl) rfl D0 rfl) ?_
 refine A1 rfl (B2 0 rfl D5 rfl C2 (A0 rfl) rfl) ?_
 refine K7 0 rfl rfl rfl (A0 rfl) (A0 rfl) (T4 _ _) rfl C2 rfl ?_
 refine A4 (A3 (A2 ?_))
 refine A1 rfl (B2 1 rfl M4 rfl C2 (A0 rfl) rfl) ?_
 refine A1 rfl (B0 2 rfl (A0 rfl) rfl D0 rfl) ?_
 refine A1 rfl (B2 1 rfl D5 rfl C2 (A0 rfl) rfl) ?_
 refine K7 0 rfl rfl rfl (A0 rfl) (A0 rfl) (T4 _ _) rfl C2 rfl ?_
 refine A4 (A3 (A2 ?_))
 refine A1 rfl (B2 2 rfl M4 rfl C2 (A0 rfl) rfl) ?_
 refine A1 rfl (B0 2 rfl (A0 rfl) rfl D0 rfl) ?_
 refine A1 rfl (B2 2 rfl D5 rfl C2 (A0 rfl) rfl) ?_
 refine K7 0 rfl rfl rfl (A0 rfl) (A0 rfl) (T4 _ _) rfl C2 rfl ?_
 refine A4 (A3 (A2 ?_))
 refine A1 rfl (B2 3 rfl M4 rfl J2 (A0 rfl) rfl) ?_
 refine A1 rfl (B0 2 rfl (A0 rfl) rfl K3 rfl) ?_
 refine A1 rfl (D4 rfl Tryz.call134 rfl (AA1 _ (by first | assumption | omega)) (A9 (A0 rfl) C6)) ?_
 refine A1 rfl (B2 3 rfl D5 rfl J2 (A0 rfl) rfl) ?_
 refine K7 0 rfl rfl rfl (A0 rfl) (A0 rfl) (U2 _ _) rfl J2 rfl ?_
 refine A4 (A3 (A2 ?_))
 refine A1 rfl (B2 4 rfl M4 rfl Tryz.sizeOf136 (A0 rfl) rfl) ?_
 refine A1 rfl (B0 2 rfl (A0 rfl) rfl Tryz.isAgg136 rfl) ?_
 refine A1 rfl (D4 rfl Tryz.call135 rfl (AD6 _ (by first | assumption | omega)) (A9 (A0 rfl) C6)) ?_
 refine A1 rfl (B2 4 rfl D5 rfl H7 (A0 rfl) rfl) ?_
 refine K7 0 rfl rfl rfl (A0 rfl) (A0 rfl) (U2 _ _) rfl H7 rfl ?_
 refine A4 (A3 (A2 ?_))
 refine A1 rfl (M0 0 rfl (A0 rfl) rfl I5 E3 rfl) ?_
 refine H1 1 rfl rfl rfl (A0 rfl) (A0 rfl) (I6 _) rfl E3 rfl ?_
 refine A4 ?_
 refine B7 ?_
 exact D7 rfl (U1 (ys := _) 1 rfl rfl I5 E3 rfl)
theorem AM2 (a b : THeld) : FSpec Tryz.prog 96 [AV.agg a.cs, AV.agg b.cs] (AV.bool (decide (a = b))) := by
 refine C1 Tryz.func96 rfl Tryz.ntmps96 rfl ?_
 refine A3 (A2 ?_)
 refine I2 rfl rfl rfl rfl (A0 rfl) ?_
 intro b2
 refine I2 rfl rfl rfl rfl (A0 rfl) ?_
 intro b3
 refine A1 rfl (A8 rfl D8) ?_
 refine A4 (A3 (A3 (A2 ?_)))
 refine A1 rfl (B2 0 rfl D5 rfl C2 (A0 rfl) rfl) ?_
 refine A1 rfl (B0 1 rfl (A0 rfl) rfl D0 rfl) ?_
 refine A1 rfl (B2 0 rfl D5 rfl C2 (A0 rfl) rfl) ?_
 refine A1 rfl (B0 0 rfl (A0 rfl) rfl D0 rfl) ?_
 refine A1 rfl (Q4 rfl (A0 rfl) (A0 rfl)) ?_
 refine A4 ?_
 refine B8 (A0 rfl) ?_ ?_
 ·intro h9
  have k9 := N5 h9; try simp only [A6] at k9
  refine A3 (A2 ?_)
  refine A1 rfl (A8 rfl D8) ?_
  refine A4 ?_
  refine B7 ?_
  exact D7 rfl (B6 rfl (by exact congrArg AV.bool (by cases a; cases b; simp_all)))
 intro h9
 have k9 := K0 h9; try simp only [A6] at k9
 refine B9 (A3 (A3 (A2 ?_)))
 refine A1 rfl (B2 1 rfl D5 rfl C2 (A0 rfl) rfl) ?_
 refine A1 rfl (B0 1 rfl (A0 rfl) rfl D0 rfl) ?_
 refine A1 rfl (B2 1 rfl D5 rfl C2 (A0 rfl) rfl) ?_
 refine A1 rfl (B0 0 rfl (A0 rfl) rfl D0 rfl) ?_
 refine A1 rfl (Q4 rfl (A0 rfl) (A0 rfl)) ?_
 refine A4 ?_
 refine B8 (A0 rfl) ?_ ?_
 ·intro h14
  have k14 := N5 h14; try simp only [A6] at k14
  refine A3 (A2 ?_)
  refine A1 rfl (A8 rfl D8) ?_
  refine A4 ?_
  refine B7 ?_
  exact D7 rfl (B6 rfl (by exact congrArg AV.bool (by cases a; cases b; simp_all)))
 intro h14
 have k14 := K0 h14; try simp only [A6] at k14
 refine B9 (A3 (A3 (A2 ?_)))
 refine A1 rfl (B2 2 rfl D5 rfl C2 (A0 rfl) rfl) ?_
 refine A1 rfl (B0 1 rfl (A0 rfl) rfl D0 rfl) ?_
 refine A1 rfl (B2 2 rfl D5 rfl C2 (A0 rfl) rfl) ?_
 refine A1 rfl (B0 0 rfl (A0 rfl) rfl D0 rfl) ?_
 refine A1 rfl (Q4 rfl (A0 rfl) (A0 rfl)) ?_
 refine A4 ?_
 refine B8 (A0 rfl) ?_ ?_
 ·intro h19
  have k19 := N5 h19; try simp only [A6] at k19
  refine A3 (A2 ?_)
  refine A1 rfl (A8 rfl D8) ?_
  refine A4 ?_
  refine B7 ?_
  exact D7 rfl (B6 rfl (by exact congrArg AV.bool (by cases a; cases b; simp_all)))
 intro h19
 have k19 := K0 h19; try simp only [A6] at k19
 refine B9 (A3 (A3 (A2 ?_)))
 refine A1 rfl (B2 3 rfl D5 rfl J2 (A0 rfl) rfl) ?_
 refine A1 rfl (B0 1 rfl (A0 rfl) rfl K3 rfl) ?_
 refine A1 rfl (B2 3 rfl D5 rfl J2 (A0 rfl) rfl) ?_
 refine A1 rfl (B0 0 rfl (A0 rfl) rfl K3 rfl) ?_
 refine A1 rfl (D4 rfl Tryz.call147 rfl (AA2 _ _) (A9 (A0 rfl) (A9 (A0 rfl) C6))) ?_
 refine A1 rfl (I3 rfl (A0 rfl)) ?_
 refine A4 ?_
 refine B8 (A0 rfl) ?_ ?_
 ·intro h25
  refine A3 (A2 ?_)
  refine A1 rfl (A8 rfl D8) ?_
  refine A4 ?_
  refine B7 ?_
  exact D7 rfl (B6 rfl (by exact congrArg AV.bool (by cases a; cases b; simp_all)))
 intro h25
 refine B9 (A3 (A3 (A2 ?_)))
 refine A1 rfl (B2 4 rfl D5 rfl H7 (A0 rfl) rfl) ?_
 refine A1 rfl (B0 1 rfl (A0 rfl) rfl I4 rfl) ?_
 refine A1 rfl (B2 4 rfl D5 rfl H7 (A0 rfl) rfl) ?_
 refine A1 rfl (B0 0 rfl (A0 rfl) rfl I4 rfl) ?_
 refine A1 rfl (D4 rfl Tryz.call148 rfl (AD7 _ _) (A9 (A0 rfl) (A9 (A0 rfl) C6))) ?_
 refine A1 rfl (I3 rfl (A0 rfl)) ?_
 refine A4 ?_
 refine B8 (A0 rfl) ?_ ?_
 ·intro h31
  refine A3 (A2 ?_)
  refine A1 rfl (A8 rfl D8) ?_
  refine A4 ?_
  refine B7 ?_
  exact D7 rfl (B6 rfl (by exact congrArg AV.bool (by cases a; cases b; simp_all)))
 intro h31
 refine B9 (A3 (A2 ?_))
 refine A1 rfl (A8 rfl D8) ?_
 refine A4 ?_
 refine B7 ?_
 exact D7 rfl (B6 rfl (by exact congrArg AV.bool (by cases a; cases b; simp_all)))
theorem AM3 (a : TTold) (hs : a.size ≤ 1048576) : FSpec Tryz.prog 90 [AV.agg a.cs] (AV.agg a.cs) := by
 unfold TTold.size at hs
 refine C1 Tryz.func90 rfl Tryz.ntmps90 rfl ?_
 refine A3 (A2 ?_)
 refine I2 rfl rfl rfl rfl (A0 rfl) ?_
 intro b1
 refine H4 rfl rfl rfl rfl Tryz.zeroValue144 rfl ?_
 intro b2
 refine A4 (A3 (A2 ?_))
 refine H4 rfl rfl rfl rfl Tryz.zeroValue144 rfl ?_
 intro b3
 refine A4 (A3 (A2 ?_))
 refine A1 rfl (B2 0 rfl Tryz.underlying146 rfl C2 (A0 rfl) rfl) ?_
 refine A1 rfl (B0 2 rfl (A0 rfl) rfl D0 rfl) ?_
 refine A1 rfl (B2 0 rfl G5 rfl C2 (A0 rfl) rfl) ?_
 refine K7 0 rfl rfl rfl (A0 rfl) (A0 rfl) (T4 _ _) rfl C2 rfl ?_
 refine A4 (A3 (A2 ?_))
 refine A1 rfl (B2 1 rfl Tryz.underlying146 rfl G7 (A0 rfl) rfl) ?_
 refine A1 rfl (B0 2 rfl (A0 rfl) rfl H9 rfl) ?_
 refine A1 rfl (B2 1 rfl G5 rfl G7 (A0 rfl) rfl) ?_
 refine K7 0 rfl rfl rfl (A0 rfl) (A0 rfl) (w9 _) rfl G7 rfl ?_
 refine A4 (A3 (A2 ?_))
 refine A1 rfl (B2 2 rfl Tryz.underlying146 rfl C2 (A0 rfl) rfl) ?_
 refine A1 rfl (B0 2 rfl (A0 rfl) rfl D0 rfl) ?_
 refine A1 rfl (B2 2 rfl G5 rfl C2 (A0 rfl) rfl) ?_
 refine K7 0 rfl rfl rfl (A0 rfl) (A0 rfl) (T4 _ _) rfl C2 rfl ?_
 refine A4 (A3 (A2 ?_))
 refine A1 rfl (M0 0 rfl (A0 rfl) rfl T0 J6 rfl) ?_
 refine H1 1 rfl rfl rfl (A0 rfl) (A0 rfl) (I6 _) rfl J6 rfl ?_
 refine A4 ?_
 refine B7 ?_
 exact D7 rfl (U1 (ys := _) 1 rfl rfl T0 J6 rfl)
theorem AM4 (a b : TTold) : FSpec Tryz.prog 97 [AV.agg a.cs, AV.agg b.cs] (AV.bool (decide (a = b))) := by
 refine C1 Tryz.func97 rfl Tryz.ntmps97 rfl ?_
 refine A3 (A2 ?_)
 refine I2 rfl rfl rfl rfl (A0 rfl) ?_
 intro b2
 refine I2 rfl rfl rfl rfl (A0 rfl) ?_
 intro b3
 refine A1 rfl (A8 rfl D8) ?_
 refine A4 (A3 (A3 (A2 ?_)))
 refine A1 rfl (B2 0 rfl G5 rfl C2 (A0 rfl) rfl) ?_
 refine A1 rfl (B0 1 rfl (A0 rfl) rfl D0 rfl) ?_
 refine A1 rfl (B2 0 rfl G5 rfl C2 (A0 rfl) rfl) ?_
 refine A1 rfl (B0 0 rfl (A0 rfl) rfl D0 rfl) ?_
 refine A1 rfl (Q4 rfl (A0 rfl) (A0 rfl)) ?_
 refine A4 ?_
 refine B8 (A0 rfl) ?_ ?_
 ·intro h9
  have k9 := N5 h9; try simp only [A6] at k9
  refine A3 (A2 ?_)
  refine A1 rfl (A8 rfl D8) ?_
  refine A4 ?_
  refine B7 ?_
  exact D7 rfl (B6 rfl (by exact congrArg AV.bool (by cases a; cases b; simp_all)))
 intro h9
 have k9 := K0 h9; try simp only [A6] at k9
 refine B9 (A3 (A3 (A2 ?_)))
 refine A1 rfl (B2 1 rfl G5 rfl G7 (A0 rfl) rfl) ?_
 refine A1 rfl (B0 1 rfl (A0 rfl) rfl H9 rfl) ?_
 refine A1 rfl (B2 1 rfl G5 rfl G7 (A0 rfl) rfl) ?_
 refine A1 rfl (B0 0 rfl (A0 rfl) rfl H9 rfl) ?_
 refine A1 rfl (s5 rfl O8 (A0 rfl) (A0 rfl)) ?_
 refine A4 ?_
 refine B8 (A0 rfl) ?_ ?_
 ·intro h14
  refine A3 (A2 ?_)
  refine A1 rfl (A8 rfl D8) ?_
  refine A4 ?_
  refine B7 ?_
  exact D7 rfl (B6 rfl (by exact congrArg AV.bool (by cases a; cases b; simp_all)))
 intro h14
 refine B9 (A3 (A3 (A2 ?_)))
 refine A1 rfl (B2 2 rfl G5 rfl C2 (A0 rfl) rfl) ?_
 refine A1 rfl (B0 1 rfl (A0 rfl) rfl D0 rfl) ?_
 refine A1 rfl (B2 2 rfl G5 rfl C2 (A0 rfl) rfl) ?_
 refine A1 rfl (B0 0 rfl (A0 rfl) rfl D0 rfl) ?_
 refine A1 rfl (Q4 rfl (A0 rfl) (A0 rfl)) ?_
 refine A4 ?_
 refine B8 (A0 rfl) ?_ ?_
 ·intro h19
  have k19 := N5 h19; try simp only [A6] at k19
  refine A3 (A2 ?_)
  refine A1 rfl (A8 rfl D8) ?_
  refine A4 ?_
  refine B7 ?_
  exact D7 rfl (B6 rfl (by exact congrArg AV.bool (by cases a; cases b; simp_all)))
 intro h19
 have k19 := K0 h19; try simp only [A6] at k19
 refine B9 (A3 (A2 ?_))
 refine A1 rfl (A8 rfl D8) ?_
 refine A4 ?_
 refine B7 ?_
 exact D7 rfl (B6 rfl (by exact congrArg AV.bool (by cases a; cases b; simp_all)))
theorem AH1 (l : List TCell) (left : Int) (hok : (∀ x ∈ l, x.ok)) (h0 : 0 ≤ left) (h1 : left ≤ 1048576) : FSpec Tryz.prog 42 [AV.list 2 (l.map TCell.cs), AV.int left] (AV.int (szR (sizeL TCell.size l) left)) := by
 refine C1 Tryz.func42 rfl Tryz.ntmps42 rfl ?_
 refine J7 (t := 0) rfl fun hl => ?_
 try simp only [A6] at hl
 refine A3 (A2 ?_)
 refine A1 rfl (A8 rfl B3) ?_
 refine A4 (A3 (A2 ?_))
 refine A5 rfl ?_
 refine A5 rfl ?_
 refine A1 rfl (E4 rfl O0 (A0 rfl)) ?_
 refine A1 rfl (L1 rfl (A0 rfl) (A0 rfl) (by first | omega | (simp only [D1, B1, szR] at *; omega))) ?_
 refine B5 rfl ?_
 refine A4 (A3 (A3 (A2 ?_)))
 refine A5 rfl ?_
 refine A1 rfl (F8 rfl (A0 rfl) B3) ?_
 refine A4 ?_
 refine B8 (A0 rfl) ?_ ?_
 ·intro h11
  have k11 := of_decide_eq_true h11; try simp only [A6] at k11
  refine A3 (A2 ?_)
  refine A1 rfl (A8 rfl B3) ?_
  refine A4 ?_
  refine B7 ?_
  exact D7 rfl (B6 rfl (by exact congrArg AV.int (by simp only [szR, sizeL, A6, decide_eq_true_eq, decide_eq_false_iff_not] at *; omega)))
 intro h11
 have k11 := of_decide_eq_false h11; try simp only [A6] at k11
 refine B9 (A3 (A3 (A2 ?_)))
 refine A1 rfl (A8 rfl B3) ?_
 refine A4 (C5 ?_)
 refine M3 [(0, _)] _ (fun (i : Nat) (b : Int) => i ≤ l.length ∧ b = left - l.length - (((l.take i).map TCell.size).sum : Nat) ∧ 0 ≤ b) (fun (i : Nat) (b : Int) => []) (fun (i : Nat) (b : Int) => [(1, AV.int b), (5, AV.int i)]) (fun (i : Nat) (b : Int) => l.length - i) (0) (left - ((l.map fun x => TCell.cs x).length : Int)) ?_ (G1 ⟨rfl, rfl, rfl, trivial⟩) ?_
 ·exact ⟨Nat.zero_le _, by simp, by simp only [A6]; omega⟩
 intro i b hinv
 refine A3 (A3 (A2 ?_))
 refine A5 rfl ?_
 refine A5 rfl ?_
 refine A1 rfl (E4 rfl O0 (A0 rfl)) ?_
 refine A1 rfl (F8 rfl (A0 rfl) (A0 rfl)) ?_
 refine A4 ?_
 refine B8 (A0 rfl) ?_ ?_
 ·intro h15
  have k15 := of_decide_eq_true h15; try simp only [A6] at k15
  have hlt : i < l.length := by omega
  obtain ⟨x, hx⟩ := get_some hlt
  have e2 := Z3 TCell.size l i x hx
  have hokx := hok x (H0 hx)
  refine B9 (A3 (C5 (A3 (A2 ?_))))
  refine A5 rfl ?_
  refine A5 rfl ?_
  refine A1 rfl (M1 rfl O0 Tryz.sizeOf134 (A0 rfl) (A0 rfl) (by omega) (by simp only [Int.toNat_natCast, List.getElem?_map, hx, Option.map_some]; try rfl)) ?_
  refine A1 rfl (G8 rfl (A0 rfl) Tryz.isAgg134 Tryz.sizeOf134) ?_
  refine A5 rfl ?_
  refine A1 rfl (D4 rfl Tryz.call86 rfl (AL7 _ _ (by assumption) (by first | omega | (simp only [D1, B1, szR] at *; omega)) (by first | omega | (simp only [D1, B1, szR] at *; omega))) (A9 (A0 rfl) (A9 (A0 rfl) C6))) ?_
  refine B5 rfl ?_
  refine A4 (A3 (A2 ?_))
  refine A5 rfl ?_
  refine A1 rfl (F8 rfl (A0 rfl) B3) ?_
  refine A4 ?_
  refine B8 (A0 rfl) ?_ ?_
  ·intro h25
   have k25 := of_decide_eq_true h25; try simp only [A6] at k25
   refine A3 (A2 ?_)
   refine A1 rfl (A8 rfl B3) ?_
   refine A4 ?_
   refine B7 ?_
   exact D7 rfl (B6 rfl (by exact congrArg AV.int (by simp only [szR, sizeL, A6, decide_eq_true_eq, decide_eq_false_iff_not] at *; omega)))
  intro h25
  have k25 := of_decide_eq_false h25; try simp only [A6] at k25
  refine B9 (A2 ?_)
  refine A5 rfl ?_
  refine A1 rfl (G6 rfl (A0 rfl) B3 (by first | omega | (simp only [D1, B1, szR] at *; omega))) ?_
  refine B5 rfl ?_
  refine A4 ?_
  refine L8 i b (i + 1) ((szR (TCell.size x) b)) ?_ ?_ (G1 ⟨rfl, rfl, rfl, trivial⟩)
  ·exact ⟨by omega, by have e1 := W4 TCell.size l i x hx; simp only [szR, decide_eq_false_iff_not] at *; omega, by omega⟩
  omega
 intro h15
 have k15 := of_decide_eq_false h15; try simp only [A6] at k15
 have hge : l.length ≤ i := by omega
 have e3 : ((l.take i).map TCell.size).sum = (l.map TCell.size).sum := by rw [List.take_of_length_le hge]
 refine F3 ?_
 refine A3 (A2 ?_)
 refine A5 rfl ?_
 refine B5 rfl ?_
 refine A4 ?_
 refine B7 ?_
 exact D7 rfl (B6 rfl (by exact congrArg AV.int (by simp only [szR, sizeL, A6, decide_eq_true_eq, decide_eq_false_iff_not] at *; omega)))
theorem AH2 (l : List TCell) (hs : sizeL TCell.size l ≤ 1048576) : FSpec Tryz.prog 47 [AV.list 2 (l.map TCell.cs)] (AV.list 2 (l.map TCell.cs)) := by
 have hsl : l.length ≤ 1048576 := Nat.le_trans K9 hs
 refine C1 Tryz.func47 rfl Tryz.ntmps47 rfl ?_
 refine A3 (A2 ?_)
 refine A1 rfl (A8 rfl (V5 (sz := 2))) ?_
 refine A4 (A3 (A2 ?_))
 refine A5 rfl ?_
 refine A1 rfl (E4 rfl O0 (A0 rfl)) ?_
 refine X6 (by' := 40) rfl rfl rfl rfl F1 Tryz.type125 rfl rfl rfl rfl rfl rfl (A0 rfl) (A0 rfl) (by simp only [A6]; omega) (by simp only [A6]; omega) ?_
 intro v7
 refine B5 rfl ?_
 refine A4 (A3 (A3 (A2 ?_)))
 refine A1 rfl (A8 rfl B3) ?_
 refine A4 (C5 ?_)
 refine G0 [(0, _), (2, _), (3, _)] _ (fun (i : Nat) => i ≤ l.length) (fun (i : Nat) => [.arr v7 125 2 ((l.take i).map TCell.cs ++ List.replicate (l.length - i) [AV.str [], AV.nils])]) (fun (i : Nat) => [(4, AV.int i)]) (fun (i : Nat) => l.length - i) (0) ?_ (M7 (by simp only [A6]; rfl) ⟨rfl, rfl, rfl, rfl, trivial⟩) ?_
 ·exact Nat.zero_le _
 intro i hinv
 refine A3 (A3 (A2 ?_))
 refine A5 rfl ?_
 refine A5 rfl ?_
 refine A1 rfl (E4 rfl O0 (A0 rfl)) ?_
 refine A1 rfl (F8 rfl (A0 rfl) (A0 rfl)) ?_
 refine A4 ?_
 refine B8 (A0 rfl) ?_ ?_
 ·intro h11
  have k11 := of_decide_eq_true h11; try simp only [A6] at k11
  have hlt : i < l.length := by omega
  obtain ⟨x, hx⟩ := get_some hlt
  have hsx : TCell.size x ≤ 1048576 := Nat.le_trans (O3 hx) hs
  refine B9 (A3 (C5 (A2 ?_)))
  refine A5 rfl ?_
  refine A5 rfl ?_
  refine A5 rfl ?_
  refine A5 rfl ?_
  refine A1 rfl (M1 rfl O0 Tryz.sizeOf134 (A0 rfl) (A0 rfl) (by omega) (by simp only [Int.toNat_natCast, List.getElem?_map, hx, Option.map_some]; try rfl)) ?_
  refine A1 rfl (G8 rfl (A0 rfl) Tryz.isAgg134 Tryz.sizeOf134) ?_
  refine A1 rfl (D4 rfl Tryz.call88 rfl (AL8 _ (by first | assumption | omega | (simp only [] at *; omega))) (A9 (A0 rfl) C6)) ?_
  refine A1 rfl (S7 0 rfl F1 E8 (A0 rfl) rfl (A0 rfl) (by omega) (by rw [O7 hinv]; omega)) ?_
  refine T1 0 rfl rfl rfl (A0 rfl) (A0 rfl) (I6 _) rfl E8 rfl (by rw [O7 hinv]; omega) ?_
  refine A4 (A2 ?_)
  refine A5 rfl ?_
  refine A1 rfl (G6 rfl (A0 rfl) B3 (by first | omega | (simp only [D1, B1, szR] at *; omega))) ?_
  refine B5 rfl ?_
  refine A4 ?_
  refine G9 i (i + 1) ?_ ?_ (M7 (by exact congrArg (fun z => [Own.arr v7 125 2 z]) (V1 hx)) ⟨rfl, rfl, rfl, rfl, trivial⟩)
  ·omega
  omega
 intro h11
 have k11 := of_decide_eq_false h11; try simp only [A6] at k11
 have hge : l.length ≤ i := by omega
 rw [V2 hge]
 refine F3 ?_
 refine A3 (A2 ?_)
 refine A5 rfl ?_
 refine B5 rfl ?_
 refine A4 ?_
 refine B7 ?_
 refine V0 0 2 rfl rfl ?_
 exact D7 rfl (B6 rfl (by first | rfl | (refine congrArg AV.bool ?_; simp_all; done)))
theorem AH3 (a b : List TCell) : FSpec Tryz.prog 55 [AV.list 2 (a.map TCell.cs), AV.list 2 (b.map TCell.cs)] (AV.bool (decide (a = b))) := by
 refine C1 Tryz.func55 rfl Tryz.ntmps55 rfl ?_
 refine J7 (t := 0) rfl fun hl => ?_
 try simp only [A6] at hl
 refine A3 (A2 ?_)
 refine A1 rfl (A8 rfl D8) ?_
 refine A4 (A3 (A3 (A2 ?_)))
 refine A5 rfl ?_
 refine A1 rfl (E4 rfl F1 (A0 rfl)) ?_
 refine A5 rfl ?_
 refine A1 rfl (E4 rfl F1 (A0 rfl)) ?_
 refine A1 rfl (Q4 rfl (A0 rfl) (A0 rfl)) ?_
 refine A4 ?_
 refine B8 (A0 rfl) ?_ ?_
 ·intro h10
  have k10 := N5 h10; try simp only [A6] at k10
  have hab : a ≠ b := by intro hc; subst hc; exact k10 rfl
  refine A3 (A2 ?_)
  refine A1 rfl (A8 rfl D8) ?_
  refine A4 ?_
  refine B7 ?_
  exact D7 rfl (B6 rfl (by exact congrArg AV.bool (by simp [hab])))
 intro h10
 have k10 := K0 h10; try simp only [A6] at k10
 have heq : a.length = b.length := by omega
 refine B9 (A3 (A3 (A2 ?_)))
 refine A1 rfl (A8 rfl B3) ?_
 refine A4 (C5 ?_)
 refine G0 [(0, _), (1, _)] _ (fun (i : Nat) => i ≤ a.length ∧ a.take i = b.take i) (fun (i : Nat) => []) (fun (i : Nat) => [(5, AV.int i)]) (fun (i : Nat) => a.length - i) (0) ?_ (G1 ⟨rfl, rfl, rfl, trivial⟩) ?_
 ·exact ⟨Nat.zero_le _, rfl⟩
 intro i hinv
 refine A3 (A3 (A2 ?_))
 refine A5 rfl ?_
 refine A5 rfl ?_
 refine A1 rfl (E4 rfl F1 (A0 rfl)) ?_
 refine A1 rfl (F8 rfl (A0 rfl) (A0 rfl)) ?_
 refine A4 ?_
 refine B8 (A0 rfl) ?_ ?_
 ·intro h14
  have k14 := of_decide_eq_true h14; try simp only [A6] at k14
  have hlt : i < a.length := by omega
  obtain ⟨x, hx⟩ := get_some hlt
  obtain ⟨y, hy⟩ := get_some (show i < b.length by omega)
  refine B9 (A3 (C5 (A3 ?_)))
  refine H5 (by kernel_rfl) (by kernel_rfl) rfl ?_
  refine B4 rfl rfl (C3 rfl (A0 rfl)) ?_
  refine B4 rfl rfl (C3 rfl (A0 rfl)) ?_
  refine B4 rfl rfl (M1 rfl F1 E8 (A0 rfl) (A0 rfl) (by omega) (by simp only [Int.toNat_natCast, List.getElem?_map, hx, Option.map_some]; try rfl)) ?_
  refine B4 rfl rfl (G8 rfl (A0 rfl) L2 E8) ?_
  refine B4 rfl rfl (C3 rfl (A0 rfl)) ?_
  refine B4 rfl rfl (C3 rfl (A0 rfl)) ?_
  refine B4 rfl rfl (M1 rfl F1 E8 (A0 rfl) (A0 rfl) (by omega) (by simp only [Int.toNat_natCast, List.getElem?_map, hy, Option.map_some]; try rfl)) ?_
  refine B4 rfl rfl (G8 rfl (A0 rfl) L2 E8) ?_
  refine B4 rfl rfl (D4 rfl Tryz.call95 rfl (AL9 _ _) (A9 (A0 rfl) (A9 (A0 rfl) C6))) ?_
  refine B4 rfl rfl (I3 rfl (A0 rfl)) ?_
  refine M6 ?_
  refine B8 (A0 rfl) ?_ ?_
  ·intro h26
   have hab : a ≠ b := by intro hc; subst hc; rw [hx] at hy; injection hy with hy; subst hy; simp at h26
   refine A3 (A2 ?_)
   refine A1 rfl (A8 rfl D8) ?_
   refine A4 ?_
   refine B7 ?_
   exact D7 rfl (B6 rfl (by exact congrArg AV.bool (by simp [hab])))
  intro h26
  refine B9 (A2 ?_)
  refine A5 rfl ?_
  refine A1 rfl (G6 rfl (A0 rfl) B3 (by first | omega | (simp only [D1, B1, szR] at *; omega))) ?_
  refine B5 rfl ?_
  refine A4 ?_
  refine G9 i (i + 1) ?_ ?_ (G1 ⟨rfl, rfl, rfl, trivial⟩)
  ·exact ⟨by omega, R4 hinv.2 hx (by rw [hy]; congr 1; simp_all)⟩
  omega
 intro h14
 have k14 := of_decide_eq_false h14; try simp only [A6] at k14
 have hge : a.length ≤ i := by omega
 have hab : a = b := T6 heq hinv.2 hge
 refine F3 ?_
 refine A3 (A2 ?_)
 refine A1 rfl (A8 rfl D8) ?_
 refine A4 ?_
 refine B7 ?_
 exact D7 rfl (B6 rfl (by exact congrArg AV.bool (by simp [hab])))
theorem AH4 (l : List THeld) (left : Int) (hok : (∀ x ∈ l, x.ok)) (h0 : 0 ≤ left) (h1 : left ≤ 1048576) : FSpec Tryz.prog 43 [AV.list 5 (l.map THeld.cs), AV.int left] (AV.int (szR (sizeL THeld.size l) left)) := by
 refine C1 Tryz.func43 rfl Tryz.ntmps43 rfl ?_
 refine J7 (t := 0) rfl fun hl => ?_
 try simp only [A6] at hl
 refine A3 (A2 ?_)
 refine A1 rfl (A8 rfl B3) ?_
 refine A4 (A3 (A2 ?_))
 refine A5 rfl ?_
 refine A5 rfl ?_
 refine A1 rfl (E4 rfl O1 (A0 rfl)) ?_
 refine A1 rfl (L1 rfl (A0 rfl) (A0 rfl) (by first | omega | (simp only [D1, B1, szR] at *; omega))) ?_
 refine B5 rfl ?_
 refine A4 (A3 (A3 (A2 ?_)))
 refine A5 rfl ?_
 refine A1 rfl (F8 rfl (A0 rfl) B3) ?_
 refine A4 ?_
 refine B8 (A0 rfl) ?_ ?_
 ·intro h11
  have k11 := of_decide_eq_true h11; try simp only [A6] at k11
  refine A3 (A2 ?_)
  refine A1 rfl (A8 rfl B3) ?_
  refine A4 ?_
  refine B7 ?_
  exact D7 rfl (B6 rfl (by exact congrArg AV.int (by simp only [szR, sizeL, A6, decide_eq_true_eq, decide_eq_false_iff_not] at *; omega)))
 intro h11
 have k11 := of_decide_eq_false h11; try simp only [A6] at k11
 refine B9 (A3 (A3 (A2 ?_)))
 refine A1 rfl (A8 rfl B3) ?_
 refine A4 (C5 ?_)
 refine M3 [(0, _)] _ (fun (i : Nat) (b : Int) => i ≤ l.length ∧ b = left - l.length - (((l.take i).map THeld.size).sum : Nat) ∧ 0 ≤ b) (fun (i : Nat) (b : Int) => []) (fun (i : Nat) (b : Int) => [(1, AV.int b), (5, AV.int i)]) (fun (i : Nat) (b : Int) => l.length - i) (0) (left - ((l.map fun x => THeld.cs x).length : Int)) ?_ (G1 ⟨rfl, rfl, rfl, trivial⟩) ?_
 ·exact ⟨Nat.zero_le _, by simp, by simp only [A6]; omega⟩
 intro i b hinv
 refine A3 (A3 (A2 ?_))
 refine A5 rfl ?_
 refine A5 rfl ?_
 refine A1 rfl (E4 rfl O1 (A0 rfl)) ?_
 refine A1 rfl (F8 rfl (A0 rfl) (A0 rfl)) ?_
 refine A4 ?_
 refine B8 (A0 rfl) ?_ ?_
 ·intro h15
  have k15 := of_decide_eq_true h15; try simp only [A6] at k15
  have hlt : i < l.length := by omega
  obtain ⟨x, hx⟩ := get_some hlt
  have e2 := Z3 THeld.size l i x hx
  have hokx := hok x (H0 hx)
  refine B9 (A3 (C5 (A3 (A2 ?_))))
  refine A5 rfl ?_
  refine A5 rfl ?_
  refine A1 rfl (M1 rfl O1 Tryz.sizeOf138 (A0 rfl) (A0 rfl) (by omega) (by simp only [Int.toNat_natCast, List.getElem?_map, hx, Option.map_some]; try rfl)) ?_
  refine A1 rfl (G8 rfl (A0 rfl) Tryz.isAgg138 Tryz.sizeOf138) ?_
  refine A5 rfl ?_
  refine A1 rfl (D4 rfl Tryz.call87 rfl (AM0 _ _ (by assumption) (by first | omega | (simp only [D1, B1, szR] at *; omega)) (by first | omega | (simp only [D1, B1, szR] at *; omega))) (A9 (A0 rfl) (A9 (A0 rfl) C6))) ?_
  refine B5 rfl ?_
  refine A4 (A3 (A2 ?_))
  refine A5 rfl ?_
  refine A1 rfl (F8 rfl (A0 rfl) B3) ?_
  refine A4 ?_
  refine B8 (A0 rfl) ?_ ?_
  ·intro h25
   have k25 := of_decide_eq_true h25; try simp only [A6] at k25
   refine A3 (A2 ?_)
   refine A1 rfl (A8 rfl B3) ?_
   refine A4 ?_
   refine B7 ?_
   exact D7 rfl (B6 rfl (by exact congrArg AV.int (by simp only [szR, sizeL, A6, decide_eq_true_eq, decide_eq_false_iff_not] at *; omega)))
  intro h25
  have k25 := of_decide_eq_false h25; try simp only [A6] at k25
  refine B9 (A2 ?_)
  refine A5 rfl ?_
  refine A1 rfl (G6 rfl (A0 rfl) B3 (by first | omega | (simp only [D1, B1, szR] at *; omega))) ?_
  refine B5 rfl ?_
  refine A4 ?_
  refine L8 i b (i + 1) ((szR (THeld.size x) b)) ?_ ?_ (G1 ⟨rfl, rfl, rfl, trivial⟩)
  ·exact ⟨by omega, by have e1 := W4 THeld.size l i x hx; simp only [szR, decide_eq_false_iff_not] at *; omega, by omega⟩
  omega
 intro h15
 have k15 := of_decide_eq_false h15; try simp only [A6] at k15
 have hge : l.length ≤ i := by omega
 have e3 : ((l.take i).map THeld.size).sum = (l.map THeld.size).sum := by rw [List.take_of_length_le hge]
 refine F3 ?_
 refine A3 (A2 ?_)
 refine A5 rfl ?_
 refine B5 rfl ?_
 refine A4 ?_
 refine B7 ?_
 exact D7 rfl (B6 rfl (by exact congrArg AV.int (by simp only [szR, sizeL, A6, decide_eq_true_eq, decide_eq_false_iff_not] at *; omega)))
theorem AH5 (l : List THeld) (hs : sizeL THeld.size l ≤ 1048576) : FSpec Tryz.prog 48 [AV.list 5 (l.map THeld.cs)] (AV.list 5 (l.map THeld.cs)) := by
 have hsl : l.length ≤ 1048576 := Nat.le_trans K9 hs
 refine C1 Tryz.func48 rfl Tryz.ntmps48 rfl ?_
 refine A3 (A2 ?_)
 refine A1 rfl (A8 rfl (V5 (sz := 5))) ?_
 refine A4 (A3 (A2 ?_))
 refine A5 rfl ?_
 refine A1 rfl (E4 rfl O1 (A0 rfl)) ?_
 refine X6 (by' := 72) rfl rfl rfl rfl F0 Tryz.type141 rfl rfl rfl rfl rfl rfl (A0 rfl) (A0 rfl) (by simp only [A6]; omega) (by simp only [A6]; omega) ?_
 intro v7
 refine B5 rfl ?_
 refine A4 (A3 (A3 (A2 ?_)))
 refine A1 rfl (A8 rfl B3) ?_
 refine A4 (C5 ?_)
 refine G0 [(0, _), (2, _), (3, _)] _ (fun (i : Nat) => i ≤ l.length) (fun (i : Nat) => [.arr v7 141 5 ((l.take i).map THeld.cs ++ List.replicate (l.length - i) [AV.int 0, AV.int 0, AV.int 0, AV.nils, AV.nils])]) (fun (i : Nat) => [(4, AV.int i)]) (fun (i : Nat) => l.length - i) (0) ?_ (M7 (by simp only [A6]; rfl) ⟨rfl, rfl, rfl, rfl, trivial⟩) ?_
 ·exact Nat.zero_le _
 intro i hinv
 refine A3 (A3 (A2 ?_))
 refine A5 rfl ?_
 refine A5 rfl ?_
 refine A1 rfl (E4 rfl O1 (A0 rfl)) ?_
 refine A1 rfl (F8 rfl (A0 rfl) (A0 rfl)) ?_
 refine A4 ?_
 refine B8 (A0 rfl) ?_ ?_
 ·intro h11
  have k11 := of_decide_eq_true h11; try simp only [A6] at k11
  have hlt : i < l.length := by omega
  obtain ⟨x, hx⟩ := get_some hlt
  have hsx : THeld.size x ≤ 1048576 := Nat.le_trans (O3 hx) hs
  refine B9 (A3 (C5 (A2 ?_)))
  refine A5 rfl ?_
  refine A5 rfl ?_
  refine A5 rfl ?_
  refine A5 rfl ?_
  refine A1 rfl (M1 rfl O1 Tryz.sizeOf138 (A0 rfl) (A0 rfl) (by omega) (by simp only [Int.toNat_natCast, List.getElem?_map, hx, Option.map_some]; try rfl)) ?_
  refine A1 rfl (G8 rfl (A0 rfl) Tryz.isAgg138 Tryz.sizeOf138) ?_
  refine A1 rfl (D4 rfl Tryz.call89 rfl (AM1 _ (by first | assumption | omega | (simp only [] at *; omega))) (A9 (A0 rfl) C6)) ?_
  refine A1 rfl (S7 0 rfl F0 E3 (A0 rfl) rfl (A0 rfl) (by omega) (by rw [O7 hinv]; omega)) ?_
  refine T1 0 rfl rfl rfl (A0 rfl) (A0 rfl) (I6 _) rfl E3 rfl (by rw [O7 hinv]; omega) ?_
  refine A4 (A2 ?_)
  refine A5 rfl ?_
  refine A1 rfl (G6 rfl (A0 rfl) B3 (by first | omega | (simp only [D1, B1, szR] at *; omega))) ?_
  refine B5 rfl ?_
  refine A4 ?_
  refine G9 i (i + 1) ?_ ?_ (M7 (by exact congrArg (fun z => [Own.arr v7 141 5 z]) (V1 hx)) ⟨rfl, rfl, rfl, rfl, trivial⟩)
  ·omega
  omega
 intro h11
 have k11 := of_decide_eq_false h11; try simp only [A6] at k11
 have hge : l.length ≤ i := by omega
 rw [V2 hge]
 refine F3 ?_
 refine A3 (A2 ?_)
 refine A5 rfl ?_
 refine B5 rfl ?_
 refine A4 ?_
 refine B7 ?_
 refine V0 0 2 rfl rfl ?_
 exact D7 rfl (B6 rfl (by first | rfl | (refine congrArg AV.bool ?_; simp_all; done)))
theorem AH6 (a b : List THeld) : FSpec Tryz.prog 56 [AV.list 5 (a.map THeld.cs), AV.list 5 (b.map THeld.cs)] (AV.bool (decide (a = b))) := by
 refine C1 Tryz.func56 rfl Tryz.ntmps56 rfl ?_
 refine J7 (t := 0) rfl fun hl => ?_
 try simp only [A6] at hl
 refine A3 (A2 ?_)
 refine A1 rfl (A8 rfl D8) ?_
 refine A4 (A3 (A3 (A2 ?_)))
 refine A5 rfl ?_
 refine A1 rfl (E4 rfl F0 (A0 rfl)) ?_
 refine A5 rfl ?_
 refine A1 rfl (E4 rfl F0 (A0 rfl)) ?_
 refine A1 rfl (Q4 rfl (A0 rfl) (A0 rfl)) ?_
 refine A4 ?_
 refine B8 (A0 rfl) ?_ ?_
 ·intro h10
  have k10 := N5 h10; try simp only [A6] at k10
  have hab : a ≠ b := by intro hc; subst hc; exact k10 rfl
  refine A3 (A2 ?_)
  refine A1 rfl (A8 rfl D8) ?_
  refine A4 ?_
  refine B7 ?_
  exact D7 rfl (B6 rfl (by exact congrArg AV.bool (by simp [hab])))
 intro h10
 have k10 := K0 h10; try simp only [A6] at k10
 have heq : a.length = b.length := by omega
 refine B9 (A3 (A3 (A2 ?_)))
 refine A1 rfl (A8 rfl B3) ?_
 refine A4 (C5 ?_)
 refine G0 [(0, _), (1, _)] _ (fun (i : Nat) => i ≤ a.length ∧ a.take i = b.take i) (fun (i : Nat) => []) (fun (i : Nat) => [(5, AV.int i)]) (fun (i : Nat) => a.length - i) (0) ?_ (G1 ⟨rfl, rfl, rfl, trivial⟩) ?_
 ·exact ⟨Nat.zero_le _, rfl⟩
 intro i hinv
 refine A3 (A3 (A2 ?_))
 refine A5 rfl ?_
 refine A5 rfl ?_
 refine A1 rfl (E4 rfl F0 (A0 rfl)) ?_
 refine A1 rfl (F8 rfl (A0 rfl) (A0 rfl)) ?_
 refine A4 ?_
 refine B8 (A0 rfl) ?_ ?_
 ·intro h14
  have k14 := of_decide_eq_true h14; try simp only [A6] at k14
  have hlt : i < a.length := by omega
  obtain ⟨x, hx⟩ := get_some hlt
  obtain ⟨y, hy⟩ := get_some (show i < b.length by omega)
  refine B9 (A3 (C5 (A3 ?_)))
  refine H5 (by kernel_rfl) (by kernel_rfl) rfl ?_
  refine B4 rfl rfl (C3 rfl (A0 rfl)) ?_
  refine B4 rfl rfl (C3 rfl (A0 rfl)) ?_
  refine B4 rfl rfl (M1 rfl F0 E3 (A0 rfl) (A0 rfl) (by omega) (by simp only [Int.toNat_natCast, List.getElem?_map, hx, Option.map_some]; try rfl)) ?_
  refine B4 rfl rfl (G8 rfl (A0 rfl) I5 E3) ?_
  refine B4 rfl rfl (C3 rfl (A0 rfl)) ?_
  refine B4 rfl rfl (C3 rfl (A0 rfl)) ?_
  refine B4 rfl rfl (M1 rfl F0 E3 (A0 rfl) (A0 rfl) (by omega) (by simp only [Int.toNat_natCast, List.getElem?_map, hy, Option.map_some]; try rfl)) ?_
  refine B4 rfl rfl (G8 rfl (A0 rfl) I5 E3) ?_
  refine B4 rfl rfl (D4 rfl Tryz.call96 rfl (AM2 _ _) (A9 (A0 rfl) (A9 (A0 rfl) C6))) ?_
  refine B4 rfl rfl (I3 rfl (A0 rfl)) ?_
  refine M6 ?_
  refine B8 (A0 rfl) ?_ ?_
  ·intro h26
   have hab : a ≠ b := by intro hc; subst hc; rw [hx] at hy; injection hy with hy; subst hy; simp at h26
   refine A3 (A2 ?_)
   refine A1 rfl (A8 rfl D8) ?_
   refine A4 ?_
   refine B7 ?_
   exact D7 rfl (B6 rfl (by exact congrArg AV.bool (by simp [hab])))
  intro h26
  refine B9 (A2 ?_)
  refine A5 rfl ?_
  refine A1 rfl (G6 rfl (A0 rfl) B3 (by first | omega | (simp only [D1, B1, szR] at *; omega))) ?_
  refine B5 rfl ?_
  refine A4 ?_
  refine G9 i (i + 1) ?_ ?_ (G1 ⟨rfl, rfl, rfl, trivial⟩)
  ·exact ⟨by omega, R4 hinv.2 hx (by rw [hy]; congr 1; simp_all)⟩
  omega
 intro h14
 have k14 := of_decide_eq_false h14; try simp only [A6] at k14
 have hge : a.length ≤ i := by omega
 have hab : a = b := T6 heq hinv.2 hge
 refine F3 ?_
 refine A3 (A2 ?_)
 refine A1 rfl (A8 rfl D8) ?_
 refine A4 ?_
 refine B7 ?_
 exact D7 rfl (B6 rfl (by exact congrArg AV.bool (by simp [hab])))
theorem AH7 (l : List TTold) (left : Int) (hok : True) (h0 : 0 ≤ left) (h1 : left ≤ 1048576) : FSpec Tryz.prog 44 [AV.list 3 (l.map TTold.cs), AV.int left] (AV.int (szR l.length left)) := by
 refine C1 Tryz.func44 rfl Tryz.ntmps44 rfl ?_
 refine J7 (t := 0) rfl fun hl => ?_
 try simp only [A6] at hl
 refine A3 (A2 ?_)
 refine A1 rfl (A8 rfl B3) ?_
 refine A4 (A3 (A2 ?_))
 refine A5 rfl ?_
 refine A5 rfl ?_
 refine A1 rfl (E4 rfl Tryz.underlying32 (A0 rfl)) ?_
 refine A1 rfl (L1 rfl (A0 rfl) (A0 rfl) (by first | omega | (simp only [D1, B1, szR] at *; omega))) ?_
 refine B5 rfl ?_
 refine A4 (A3 (A3 (A2 ?_)))
 refine A5 rfl ?_
 refine A1 rfl (F8 rfl (A0 rfl) B3) ?_
 refine A4 ?_
 refine B8 (A0 rfl) ?_ ?_
 ·intro h10
  have k10 := of_decide_eq_true h10; try simp only [A6] at k10
  refine A3 (A2 ?_)
  refine A1 rfl (A8 rfl B3) ?_
  refine A4 ?_
  refine B7 ?_
  exact D7 rfl (B6 rfl (by exact congrArg AV.int (by simp only [szR, A6, decide_eq_true_eq, decide_eq_false_iff_not] at *; omega)))
 intro h10
 have k10 := of_decide_eq_false h10; try simp only [A6] at k10
 refine B9 (A3 (A2 ?_))
 refine A5 rfl ?_
 refine B5 rfl ?_
 refine A4 ?_
 refine B7 ?_
 exact D7 rfl (B6 rfl (by exact congrArg AV.int (by simp only [szR, A6, decide_eq_true_eq, decide_eq_false_iff_not] at *; omega)))
theorem AH8 (l : List TTold) (hs : l.length ≤ 1048576) : FSpec Tryz.prog 49 [AV.list 3 (l.map TTold.cs)] (AV.list 3 (l.map TTold.cs)) := by
 have hsl : l.length ≤ 1048576 := hs
 refine C1 Tryz.func49 rfl Tryz.ntmps49 rfl ?_
 refine A3 (A2 ?_)
 refine A1 rfl (A8 rfl (V5 (sz := 3))) ?_
 refine A4 (A3 (A2 ?_))
 refine A5 rfl ?_
 refine A1 rfl (E4 rfl Tryz.underlying32 (A0 rfl)) ?_
 refine X6 (by' := 24) rfl rfl rfl rfl J1 Tryz.type144 rfl rfl rfl rfl rfl rfl (A0 rfl) (A0 rfl) (by simp only [A6]; omega) (by simp only [A6]; omega) ?_
 intro v7
 refine B5 rfl ?_
 refine A4 (A3 (A3 (A2 ?_)))
 refine A1 rfl (A8 rfl B3) ?_
 refine A4 (C5 ?_)
 refine G0 [(0, _), (2, _), (3, _)] _ (fun (i : Nat) => i ≤ l.length) (fun (i : Nat) => [.arr v7 144 3 ((l.take i).map TTold.cs ++ List.replicate (l.length - i) [AV.int 0, AV.bool false, AV.int 0])]) (fun (i : Nat) => [(4, AV.int i)]) (fun (i : Nat) => l.length - i) (0) ?_ (M7 (by simp only [A6]; rfl) ⟨rfl, rfl, rfl, rfl, trivial⟩) ?_
 ·exact Nat.zero_le _
 intro i hinv
 refine A3 (A3 (A2 ?_))
 refine A5 rfl ?_
 refine A5 rfl ?_
 refine A1 rfl (E4 rfl Tryz.underlying32 (A0 rfl)) ?_
 refine A1 rfl (F8 rfl (A0 rfl) (A0 rfl)) ?_
 refine A4 ?_
 refine B8 (A0 rfl) ?_ ?_
 ·intro h11
  have k11 := of_decide_eq_true h11; try simp only [A6] at k11
  have hlt : i < l.length := by omega
  obtain ⟨x, hx⟩ := get_some hlt
  have hsx : x.size ≤ 1048576 := Nat.zero_le _
  refine B9 (A3 (C5 (A2 ?_)))
  refine A5 rfl ?_
  refine A5 rfl ?_
  refine A5 rfl ?_
  refine A5 rfl ?_
  refine A1 rfl (M1 rfl Tryz.underlying32 Tryz.sizeOf146 (A0 rfl) (A0 rfl) (by omega) (by simp only [Int.toNat_natCast, List.getElem?_map, hx, Option.map_some]; try rfl)) ?_
  refine A1 rfl (G8 rfl (A0 rfl) Tryz.isAgg146 Tryz.sizeOf146) ?_
  refine A1 rfl (D4 rfl Tryz.call90 rfl (AM3 _ (by first | assumption | omega | (simp only [] at *; omega))) (A9 (A0 rfl) C6)) ?_
  refine A1 rfl (S7 0 rfl J1 J6 (A0 rfl) rfl (A0 rfl) (by omega) (by rw [O7 hinv]; omega)) ?_
  refine T1 0 rfl rfl rfl (A0 rfl) (A0 rfl) (I6 _) rfl J6 rfl (by rw [O7 hinv]; omega) ?_
  refine A4 (A2 ?_)
  refine A5 rfl ?_
  refine A1 rfl (G6 rfl (A0 rfl) B3 (by first | omega | (simp only [D1, B1, szR] at *; omega))) ?_
  refine B5 rfl ?_
  refine A4 ?_
  refine G9 i (i + 1) ?_ ?_ (M7 (by exact congrArg (fun z => [Own.arr v7 144 3 z]) (V1 hx)) ⟨rfl, rfl, rfl, rfl, trivial⟩)
  ·omega
  omega
 intro h11
 have k11 := of_decide_eq_false h11; try simp only [A6] at k11
 have hge : l.length ≤ i := by omega
 rw [V2 hge]
 refine F3 ?_
 refine A3 (A2 ?_)
 refine A5 rfl ?_
 refine B5 rfl ?_
 refine A4 ?_
 refine B7 ?_
 refine V0 0 2 rfl rfl ?_
 exact D7 rfl (B6 rfl (by first | rfl | (refine congrArg AV.bool ?_; simp_all; done)))
theorem AH9 (a b : List TTold) : FSpec Tryz.prog 57 [AV.list 3 (a.map TTold.cs), AV.list 3 (b.map TTold.cs)] (AV.bool (decide (a = b))) := by
 refine C1 Tryz.func57 rfl Tryz.ntmps57 rfl ?_
 refine J7 (t := 0) rfl fun hl => ?_
 try simp only [A6] at hl
 refine A3 (A2 ?_)
 refine A1 rfl (A8 rfl D8) ?_
 refine A4 (A3 (A3 (A2 ?_)))
 refine A5 rfl ?_
 refine A1 rfl (E4 rfl J1 (A0 rfl)) ?_
 refine A5 rfl ?_
 refine A1 rfl (E4 rfl J1 (A0 rfl)) ?_
 refine A1 rfl (Q4 rfl (A0 rfl) (A0 rfl)) ?_
 refine A4 ?_
 refine B8 (A0 rfl) ?_ ?_
 ·intro h10
  have k10 := N5 h10; try simp only [A6] at k10
  have hab : a ≠ b := by intro hc; subst hc; exact k10 rfl
  refine A3 (A2 ?_)
  refine A1 rfl (A8 rfl D8) ?_
  refine A4 ?_
  refine B7 ?_
  exact D7 rfl (B6 rfl (by exact congrArg AV.bool (by simp [hab])))
 intro h10
 have k10 := K0 h10; try simp only [A6] at k10
 have heq : a.length = b.length := by omega
 refine B9 (A3 (A3 (A2 ?_)))
 refine A1 rfl (A8 rfl B3) ?_
 refine A4 (C5 ?_)
 refine G0 [(0, _), (1, _)] _ (fun (i : Nat) => i ≤ a.length ∧ a.take i = b.take i) (fun (i : Nat) => []) (fun (i : Nat) => [(5, AV.int i)]) (fun (i : Nat) => a.length - i) (0) ?_ (G1 ⟨rfl, rfl, rfl, trivial⟩) ?_
 ·exact ⟨Nat.zero_le _, rfl⟩
 intro i hinv
 refine A3 (A3 (A2 ?_))
 refine A5 rfl ?_
 refine A5 rfl ?_
 refine A1 rfl (E4 rfl J1 (A0 rfl)) ?_
 refine A1 rfl (F8 rfl (A0 rfl) (A0 rfl)) ?_
 refine A4 ?_
 refine B8 (A0 rfl) ?_ ?_
 ·intro h14
  have k14 := of_decide_eq_true h14; try simp only [A6] at k14
  have hlt : i < a.length := by omega
  obtain ⟨x, hx⟩ := get_some hlt
  obtain ⟨y, hy⟩ := get_some (show i < b.length by omega)
  refine B9 (A3 (C5 (A3 ?_)))
  refine H5 (by kernel_rfl) (by kernel_rfl) rfl ?_
  refine B4 rfl rfl (C3 rfl (A0 rfl)) ?_
  refine B4 rfl rfl (C3 rfl (A0 rfl)) ?_
  refine B4 rfl rfl (M1 rfl J1 J6 (A0 rfl) (A0 rfl) (by omega) (by simp only [Int.toNat_natCast, List.getElem?_map, hx, Option.map_some]; try rfl)) ?_
  refine B4 rfl rfl (G8 rfl (A0 rfl) T0 J6) ?_
  refine B4 rfl rfl (C3 rfl (A0 rfl)) ?_
  refine B4 rfl rfl (C3 rfl (A0 rfl)) ?_
  refine B4 rfl rfl (M1 rfl J1 J6 (A0 rfl) (A0 rfl) (by omega) (by simp only [Int.toNat_natCast, List.getElem?_map, hy, Option.map_some]; try rfl)) ?_
  refine B4 rfl rfl (G8 rfl (A0 rfl) T0 J6) ?_
  refine B4 rfl rfl (D4 rfl Tryz.call97 rfl (AM4 _ _) (A9 (A0 rfl) (A9 (A0 rfl) C6))) ?_
  refine B4 rfl rfl (I3 rfl (A0 rfl)) ?_
  refine M6 ?_
  refine B8 (A0 rfl) ?_ ?_
  ·intro h26
   have hab : a ≠ b := by intro hc; subst hc; rw [hx] at hy; injection hy with hy; subst hy; simp at h26
   refine A3 (A2 ?_)
   refine A1 rfl (A8 rfl D8) ?_
   refine A4 ?_
   refine B7 ?_
   exact D7 rfl (B6 rfl (by exact congrArg AV.bool (by simp [hab])))
  intro h26
  refine B9 (A2 ?_)
  refine A5 rfl ?_
  refine A1 rfl (G6 rfl (A0 rfl) B3 (by first | omega | (simp only [D1, B1, szR] at *; omega))) ?_
  refine B5 rfl ?_
  refine A4 ?_
  refine G9 i (i + 1) ?_ ?_ (G1 ⟨rfl, rfl, rfl, trivial⟩)
  ·exact ⟨by omega, R4 hinv.2 hx (by rw [hy]; congr 1; simp_all)⟩
  omega
 intro h14
 have k14 := of_decide_eq_false h14; try simp only [A6] at k14
 have hge : a.length ≤ i := by omega
 have hab : a = b := T6 heq hinv.2 hge
 refine F3 ?_
 refine A3 (A2 ?_)
 refine A1 rfl (A8 rfl D8) ?_
 refine A4 ?_
 refine B7 ?_
 exact D7 rfl (B6 rfl (by exact congrArg AV.bool (by simp [hab])))
theorem AI0 (a : TState) (left : Int) (hok : a.ok) (h0 : 0 ≤ left) (h1 : left ≤ 1048576) : FSpec Tryz.prog 14 [AV.agg a.cs, AV.int left] (AV.int (szR a.size left)) := by
 obtain ⟨oCells, oHeld⟩ := hok
 refine C1 Tryz.func14 rfl Tryz.ntmps14 rfl ?_
 refine A3 (A2 ?_)
 refine I2 rfl rfl rfl rfl (A0 rfl) ?_
 intro b2
 refine A1 rfl (A8 rfl B3) ?_
 refine A4 (A3 (A2 ?_))
 refine A1 rfl (B2 1 rfl M8 rfl Tryz.sizeOf30 (A0 rfl) rfl) ?_
 refine A1 rfl (B0 0 rfl (A0 rfl) rfl Tryz.isAgg30 rfl) ?_
 refine A5 rfl ?_
 refine A1 rfl (D4 rfl Tryz.call42 rfl (AH1 _ _ (by first | assumption | trivial) (by first | omega | (simp only [D1, B1, szR] at *; omega)) (by first | omega | (simp only [D1, B1, szR] at *; omega))) (A9 (A0 rfl) (A9 (A0 rfl) C6))) ?_
 refine B5 rfl ?_
 refine A4 (A3 (A3 (A2 ?_)))
 refine A5 rfl ?_
 refine A1 rfl (F8 rfl (A0 rfl) B3) ?_
 refine A4 ?_
 refine B8 (A0 rfl) ?_ ?_
 ·intro h10
  have k10 := of_decide_eq_true h10; try simp only [A6] at k10
  refine A3 (A2 ?_)
  refine A1 rfl (A8 rfl B3) ?_
  refine A4 ?_
  refine B7 ?_
  exact D7 rfl (B6 rfl (by exact congrArg AV.int (by simp only [szR, TState.size, decide_eq_true_eq, decide_eq_false_iff_not] at *; omega)))
 intro h10
 have k10 := of_decide_eq_false h10; try simp only [A6] at k10
 refine B9 (A3 (A2 ?_))
 refine A1 rfl (B2 2 rfl M8 rfl Tryz.sizeOf31 (A0 rfl) rfl) ?_
 refine A1 rfl (B0 0 rfl (A0 rfl) rfl Tryz.isAgg31 rfl) ?_
 refine A5 rfl ?_
 refine A1 rfl (D4 rfl Tryz.call43 rfl (AH4 _ _ (by first | assumption | trivial) (by first | omega | (simp only [D1, B1, szR] at *; omega)) (by first | omega | (simp only [D1, B1, szR] at *; omega))) (A9 (A0 rfl) (A9 (A0 rfl) C6))) ?_
 refine B5 rfl ?_
 refine A4 (A3 (A3 (A2 ?_)))
 refine A5 rfl ?_
 refine A1 rfl (F8 rfl (A0 rfl) B3) ?_
 refine A4 ?_
 refine B8 (A0 rfl) ?_ ?_
 ·intro h16
  have k16 := of_decide_eq_true h16; try simp only [A6] at k16
  refine A3 (A2 ?_)
  refine A1 rfl (A8 rfl B3) ?_
  refine A4 ?_
  refine B7 ?_
  exact D7 rfl (B6 rfl (by exact congrArg AV.int (by simp only [szR, TState.size, decide_eq_true_eq, decide_eq_false_iff_not] at *; omega)))
 intro h16
 have k16 := of_decide_eq_false h16; try simp only [A6] at k16
 refine B9 (A3 (A2 ?_))
 refine A1 rfl (B2 3 rfl M8 rfl Tryz.sizeOf32 (A0 rfl) rfl) ?_
 refine A1 rfl (B0 0 rfl (A0 rfl) rfl Tryz.isAgg32 rfl) ?_
 refine A5 rfl ?_
 refine A1 rfl (D4 rfl Tryz.call44 rfl (AH7 _ _ (by first | assumption | trivial) (by first | omega | (simp only [D1, B1, szR] at *; omega)) (by first | omega | (simp only [D1, B1, szR] at *; omega))) (A9 (A0 rfl) (A9 (A0 rfl) C6))) ?_
 refine B5 rfl ?_
 refine A4 (A3 (A3 (A2 ?_)))
 refine A5 rfl ?_
 refine A1 rfl (F8 rfl (A0 rfl) B3) ?_
 refine A4 ?_
 refine B8 (A0 rfl) ?_ ?_
 ·intro h22
  have k22 := of_decide_eq_true h22; try simp only [A6] at k22
  refine A3 (A2 ?_)
  refine A1 rfl (A8 rfl B3) ?_
  refine A4 ?_
  refine B7 ?_
  exact D7 rfl (B6 rfl (by exact congrArg AV.int (by simp only [szR, TState.size, decide_eq_true_eq, decide_eq_false_iff_not] at *; omega)))
 intro h22
 have k22 := of_decide_eq_false h22; try simp only [A6] at k22
 refine B9 (A3 (A2 ?_))
 refine A5 rfl ?_
 refine B5 rfl ?_
 refine A4 ?_
 refine B7 ?_
 exact D7 rfl (B6 rfl (by exact congrArg AV.int (by simp only [szR, TState.size, decide_eq_true_eq, decide_eq_false_iff_not] at *; omega)))
theorem AI1 (a : TState) (hs : a.size ≤ 1048576) : FSpec Tryz.prog 16 [AV.agg a.cs] (AV.agg a.cs) := by
 unfold TState.size at hs
 refine C1 Tryz.func16 rfl Tryz.ntmps16 rfl ?_
 refine A3 (A2 ?_)
 refine I2 rfl rfl rfl rfl (A0 rfl) ?_
 intro b1
 refine H4 rfl rfl rfl rfl Tryz.zeroValue43 rfl ?_
 intro b2
 refine A4 (A3 (A2 ?_))
 refine H4 rfl rfl rfl rfl Tryz.zeroValue43 rfl ?_
 intro b3
 refine A4 (A3 (A2 ?_))
 refine A1 rfl (B2 0 rfl M8 rfl C2 (A0 rfl) rfl) ?_
 refine A1 rfl (B0 2 rfl (A0 rfl) rfl D0 rfl) ?_
 refine A1 rfl (B2 0 rfl D6 rfl C2 (A0 rfl) rfl) ?_
 refine K7 0 rfl rfl rfl (A0 rfl) (A0 rfl) (T4 _ _) rfl C2 rfl ?_
 refine A4 (A3 (A2 ?_))
 refine A1 rfl (B2 1 rfl M8 rfl Tryz.sizeOf30 (A0 rfl) rfl) ?_
 refine A1 rfl (B0 2 rfl (A0 rfl) rfl Tryz.isAgg30 rfl) ?_
 refine A1 rfl (D4 rfl Tryz.call47 rfl (AH2 _ (by first | assumption | omega)) (A9 (A0 rfl) C6)) ?_
 refine A1 rfl (B2 1 rfl D6 rfl J9 (A0 rfl) rfl) ?_
 refine K7 0 rfl rfl rfl (A0 rfl) (A0 rfl) (U2 _ _) rfl J9 rfl ?_
 refine A4 (A3 (A2 ?_))
 refine A1 rfl (B2 2 rfl M8 rfl Tryz.sizeOf31 (A0 rfl) rfl) ?_
 refine A1 rfl (B0 2 rfl (A0 rfl) rfl Tryz.isAgg31 rfl) ?_
 refine A1 rfl (D4 rfl Tryz.call48 rfl (AH5 _ (by first | assumption | omega)) (A9 (A0 rfl) C6)) ?_
 refine A1 rfl (B2 2 rfl D6 rfl K6 (A0 rfl) rfl) ?_
 refine K7 0 rfl rfl rfl (A0 rfl) (A0 rfl) (U2 _ _) rfl K6 rfl ?_
 refine A4 (A3 (A2 ?_))
 refine A1 rfl (B2 3 rfl M8 rfl Tryz.sizeOf32 (A0 rfl) rfl) ?_
 refine A1 rfl (B0 2 rfl (A0 rfl) rfl Tryz.isAgg32 rfl) ?_
 refine A1 rfl (D4 rfl Tryz.call49 rfl (AH8 _ (by first | assumption | omega)) (A9 (A0 rfl) C6)) ?_
 refine A1 rfl (B2 3 rfl D6 rfl N7 (A0 rfl) rfl) ?_
 refine K7 0 rfl rfl rfl (A0 rfl) (A0 rfl) (U2 _ _) rfl N7 rfl ?_
 refine A4 (A3 (A2 ?_))
 refine A1 rfl (M0 0 rfl (A0 rfl) rfl L0 I1 rfl) ?_
 refine H1 1 rfl rfl rfl (A0 rfl) (A0 rfl) (I6 _) rfl I1 rfl ?_
 refine A4 ?_
 refine B7 ?_
 exact D7 rfl (U1 (ys := _) 1 rfl rfl L0 I1 rfl)
theorem AI2 (a b : TState) : FSpec Tryz.prog 19 [AV.agg a.cs, AV.agg b.cs] (AV.bool (decide (a = b))) := by
 refine C1 Tryz.func19 rfl Tryz.ntmps19 rfl ?_
 refine A3 (A2 ?_)
 refine I2 rfl rfl rfl rfl (A0 rfl) ?_
 intro b2
 refine I2 rfl rfl rfl rfl (A0 rfl) ?_
 intro b3
 refine A1 rfl (A8 rfl D8) ?_
 refine A4 (A3 (A3 (A2 ?_)))
 refine A1 rfl (B2 0 rfl D6 rfl C2 (A0 rfl) rfl) ?_
 refine A1 rfl (B0 1 rfl (A0 rfl) rfl D0 rfl) ?_
 refine A1 rfl (B2 0 rfl D6 rfl C2 (A0 rfl) rfl) ?_
 refine A1 rfl (B0 0 rfl (A0 rfl) rfl D0 rfl) ?_
 refine A1 rfl (Q4 rfl (A0 rfl) (A0 rfl)) ?_
 refine A4 ?_
 refine B8 (A0 rfl) ?_ ?_
 ·intro h9
  have k9 := N5 h9; try simp only [A6] at k9
  refine A3 (A2 ?_)
  refine A1 rfl (A8 rfl D8) ?_
  refine A4 ?_
  refine B7 ?_
  exact D7 rfl (B6 rfl (by exact congrArg AV.bool (by cases a; cases b; simp_all)))
 intro h9
 have k9 := K0 h9; try simp only [A6] at k9
 refine B9 (A3 (A3 (A2 ?_)))
 refine A1 rfl (B2 1 rfl D6 rfl J9 (A0 rfl) rfl) ?_
 refine A1 rfl (B0 1 rfl (A0 rfl) rfl L3 rfl) ?_
 refine A1 rfl (B2 1 rfl D6 rfl J9 (A0 rfl) rfl) ?_
 refine A1 rfl (B0 0 rfl (A0 rfl) rfl L3 rfl) ?_
 refine A1 rfl (D4 rfl Tryz.call55 rfl (AH3 _ _) (A9 (A0 rfl) (A9 (A0 rfl) C6))) ?_
 refine A1 rfl (I3 rfl (A0 rfl)) ?_
 refine A4 ?_
 refine B8 (A0 rfl) ?_ ?_
 ·intro h15
  refine A3 (A2 ?_)
  refine A1 rfl (A8 rfl D8) ?_
  refine A4 ?_
  refine B7 ?_
  exact D7 rfl (B6 rfl (by exact congrArg AV.bool (by cases a; cases b; simp_all)))
 intro h15
 refine B9 (A3 (A3 (A2 ?_)))
 refine A1 rfl (B2 2 rfl D6 rfl K6 (A0 rfl) rfl) ?_
 refine A1 rfl (B0 1 rfl (A0 rfl) rfl L7 rfl) ?_
 refine A1 rfl (B2 2 rfl D6 rfl K6 (A0 rfl) rfl) ?_
 refine A1 rfl (B0 0 rfl (A0 rfl) rfl L7 rfl) ?_
 refine A1 rfl (D4 rfl Tryz.call56 rfl (AH6 _ _) (A9 (A0 rfl) (A9 (A0 rfl) C6))) ?_
 refine A1 rfl (I3 rfl (A0 rfl)) ?_
 refine A4 ?_
 refine B8 (A0 rfl) ?_ ?_
 ·intro h21
  refine A3 (A2 ?_)
  refine A1 rfl (A8 rfl D8) ?_
  refine A4 ?_
  refine B7 ?_
  exact D7 rfl (B6 rfl (by exact congrArg AV.bool (by cases a; cases b; simp_all)))
 intro h21
 refine B9 (A3 (A3 (A2 ?_)))
 refine A1 rfl (B2 3 rfl D6 rfl N7 (A0 rfl) rfl) ?_
 refine A1 rfl (B0 1 rfl (A0 rfl) rfl Q7 rfl) ?_
 refine A1 rfl (B2 3 rfl D6 rfl N7 (A0 rfl) rfl) ?_
 refine A1 rfl (B0 0 rfl (A0 rfl) rfl Q7 rfl) ?_
 refine A1 rfl (D4 rfl Tryz.call57 rfl (AH9 _ _) (A9 (A0 rfl) (A9 (A0 rfl) C6))) ?_
 refine A1 rfl (I3 rfl (A0 rfl)) ?_
 refine A4 ?_
 refine B8 (A0 rfl) ?_ ?_
 ·intro h27
  refine A3 (A2 ?_)
  refine A1 rfl (A8 rfl D8) ?_
  refine A4 ?_
  refine B7 ?_
  exact D7 rfl (B6 rfl (by exact congrArg AV.bool (by cases a; cases b; simp_all)))
 intro h27
 refine B9 (A3 (A2 ?_))
 refine A1 rfl (A8 rfl D8) ?_
 refine A4 ?_
 refine B7 ?_
 exact D7 rfl (B6 rfl (by exact congrArg AV.bool (by cases a; cases b; simp_all)))
theorem AD8 (l : List TState) (left : Int) (hok : (∀ x ∈ l, x.ok)) (h0 : 0 ≤ left) (h1 : left ≤ 1048576) : FSpec Tryz.prog 9 [AV.list 4 (l.map TState.cs), AV.int left] (AV.int (szR (sizeL TState.size l) left)) := by
 refine C1 Tryz.func9 rfl Tryz.ntmps9 rfl ?_
 refine J7 (t := 0) rfl fun hl => ?_
 try simp only [A6] at hl
 refine A3 (A2 ?_)
 refine A1 rfl (A8 rfl B3) ?_
 refine A4 (A3 (A2 ?_))
 refine A5 rfl ?_
 refine A5 rfl ?_
 refine A1 rfl (E4 rfl M9 (A0 rfl)) ?_
 refine A1 rfl (L1 rfl (A0 rfl) (A0 rfl) (by first | omega | (simp only [D1, B1, szR] at *; omega))) ?_
 refine B5 rfl ?_
 refine A4 (A3 (A3 (A2 ?_)))
 refine A5 rfl ?_
 refine A1 rfl (F8 rfl (A0 rfl) B3) ?_
 refine A4 ?_
 refine B8 (A0 rfl) ?_ ?_
 ·intro h11
  have k11 := of_decide_eq_true h11; try simp only [A6] at k11
  refine A3 (A2 ?_)
  refine A1 rfl (A8 rfl B3) ?_
  refine A4 ?_
  refine B7 ?_
  exact D7 rfl (B6 rfl (by exact congrArg AV.int (by simp only [szR, sizeL, A6, decide_eq_true_eq, decide_eq_false_iff_not] at *; omega)))
 intro h11
 have k11 := of_decide_eq_false h11; try simp only [A6] at k11
 refine B9 (A3 (A3 (A2 ?_)))
 refine A1 rfl (A8 rfl B3) ?_
 refine A4 (C5 ?_)
 refine M3 [(0, _)] _ (fun (i : Nat) (b : Int) => i ≤ l.length ∧ b = left - l.length - (((l.take i).map TState.size).sum : Nat) ∧ 0 ≤ b) (fun (i : Nat) (b : Int) => []) (fun (i : Nat) (b : Int) => [(1, AV.int b), (5, AV.int i)]) (fun (i : Nat) (b : Int) => l.length - i) (0) (left - ((l.map fun x => TState.cs x).length : Int)) ?_ (G1 ⟨rfl, rfl, rfl, trivial⟩) ?_
 ·exact ⟨Nat.zero_le _, by simp, by simp only [A6]; omega⟩
 intro i b hinv
 refine A3 (A3 (A2 ?_))
 refine A5 rfl ?_
 refine A5 rfl ?_
 refine A1 rfl (E4 rfl M9 (A0 rfl)) ?_
 refine A1 rfl (F8 rfl (A0 rfl) (A0 rfl)) ?_
 refine A4 ?_
 refine B8 (A0 rfl) ?_ ?_
 ·intro h15
  have k15 := of_decide_eq_true h15; try simp only [A6] at k15
  have hlt : i < l.length := by omega
  obtain ⟨x, hx⟩ := get_some hlt
  have e2 := Z3 TState.size l i x hx
  have hokx := hok x (H0 hx)
  refine B9 (A3 (C5 (A3 (A2 ?_))))
  refine A5 rfl ?_
  refine A5 rfl ?_
  refine A1 rfl (M1 rfl M9 Tryz.sizeOf34 (A0 rfl) (A0 rfl) (by omega) (by simp only [Int.toNat_natCast, List.getElem?_map, hx, Option.map_some]; try rfl)) ?_
  refine A1 rfl (G8 rfl (A0 rfl) Tryz.isAgg34 Tryz.sizeOf34) ?_
  refine A5 rfl ?_
  refine A1 rfl (D4 rfl Tryz.call14 rfl (AI0 _ _ (by assumption) (by first | omega | (simp only [D1, B1, szR] at *; omega)) (by first | omega | (simp only [D1, B1, szR] at *; omega))) (A9 (A0 rfl) (A9 (A0 rfl) C6))) ?_
  refine B5 rfl ?_
  refine A4 (A3 (A2 ?_))
  refine A5 rfl ?_
  refine A1 rfl (F8 rfl (A0 rfl) B3) ?_
  refine A4 ?_
  refine B8 (A0 rfl) ?_ ?_
  ·intro h25
   have k25 := of_decide_eq_true h25; try simp only [A6] at k25
   refine A3 (A2 ?_)
   refine A1 rfl (A8 rfl B3) ?_
   refine A4 ?_
   refine B7 ?_
   exact D7 rfl (B6 rfl (by exact congrArg AV.int (by simp only [szR, sizeL, A6, decide_eq_true_eq, decide_eq_false_iff_not] at *; omega)))
  intro h25
  have k25 := of_decide_eq_false h25; try simp only [A6] at k25
  refine B9 (A2 ?_)
  refine A5 rfl ?_
  refine A1 rfl (G6 rfl (A0 rfl) B3 (by first | omega | (simp only [D1, B1, szR] at *; omega))) ?_
  refine B5 rfl ?_
  refine A4 ?_
  refine L8 i b (i + 1) ((szR (TState.size x) b)) ?_ ?_ (G1 ⟨rfl, rfl, rfl, trivial⟩)
  ·exact ⟨by omega, by have e1 := W4 TState.size l i x hx; simp only [szR, decide_eq_false_iff_not] at *; omega, by omega⟩
  omega
 intro h15
 have k15 := of_decide_eq_false h15; try simp only [A6] at k15
 have hge : l.length ≤ i := by omega
 have e3 : ((l.take i).map TState.size).sum = (l.map TState.size).sum := by rw [List.take_of_length_le hge]
 refine F3 ?_
 refine A3 (A2 ?_)
 refine A5 rfl ?_
 refine B5 rfl ?_
 refine A4 ?_
 refine B7 ?_
 exact D7 rfl (B6 rfl (by exact congrArg AV.int (by simp only [szR, sizeL, A6, decide_eq_true_eq, decide_eq_false_iff_not] at *; omega)))
theorem Z8 (l : List TState) (hs : sizeL TState.size l ≤ 1048576) : FSpec Tryz.prog 11 [AV.list 4 (l.map TState.cs)] (AV.list 4 (l.map TState.cs)) := by
 have hsl : l.length ≤ 1048576 := Nat.le_trans K9 hs
 refine C1 Tryz.func11 rfl Tryz.ntmps11 rfl ?_
 refine A3 (A2 ?_)
 refine A1 rfl (A8 rfl (V5 (sz := 4))) ?_
 refine A4 (A3 (A2 ?_))
 refine A5 rfl ?_
 refine A1 rfl (E4 rfl M9 (A0 rfl)) ?_
 refine X6 (by' := 80) rfl rfl rfl rfl J0 Tryz.type43 rfl rfl rfl rfl rfl rfl (A0 rfl) (A0 rfl) (by simp only [A6]; omega) (by simp only [A6]; omega) ?_
 intro v7
 refine B5 rfl ?_
 refine A4 (A3 (A3 (A2 ?_)))
 refine A1 rfl (A8 rfl B3) ?_
 refine A4 (C5 ?_)
 refine G0 [(0, _), (2, _), (3, _)] _ (fun (i : Nat) => i ≤ l.length) (fun (i : Nat) => [.arr v7 43 4 ((l.take i).map TState.cs ++ List.replicate (l.length - i) [AV.int 0, AV.nils, AV.nils, AV.nils])]) (fun (i : Nat) => [(4, AV.int i)]) (fun (i : Nat) => l.length - i) (0) ?_ (M7 (by simp only [A6]; rfl) ⟨rfl, rfl, rfl, rfl, trivial⟩) ?_
 ·exact Nat.zero_le _
 intro i hinv
 refine A3 (A3 (A2 ?_))
 refine A5 rfl ?_
 refine A5 rfl ?_
 refine A1 rfl (E4 rfl M9 (A0 rfl)) ?_
 refine A1 rfl (F8 rfl (A0 rfl) (A0 rfl)) ?_
 refine A4 ?_
 refine B8 (A0 rfl) ?_ ?_
 ·intro h11
  have k11 := of_decide_eq_true h11; try simp only [A6] at k11
  have hlt : i < l.length := by omega
  obtain ⟨x, hx⟩ := get_some hlt
  have hsx : TState.size x ≤ 1048576 := Nat.le_trans (O3 hx) hs
  refine B9 (A3 (C5 (A2 ?_)))
  refine A5 rfl ?_
  refine A5 rfl ?_
  refine A5 rfl ?_
  refine A5 rfl ?_
  refine A1 rfl (M1 rfl M9 Tryz.sizeOf34 (A0 rfl) (A0 rfl) (by omega) (by simp only [Int.toNat_natCast, List.getElem?_map, hx, Option.map_some]; try rfl)) ?_
  refine A1 rfl (G8 rfl (A0 rfl) Tryz.isAgg34 Tryz.sizeOf34) ?_
  refine A1 rfl (D4 rfl Tryz.call16 rfl (AI1 _ (by first | assumption | omega | (simp only [] at *; omega))) (A9 (A0 rfl) C6)) ?_
  refine A1 rfl (S7 0 rfl J0 I1 (A0 rfl) rfl (A0 rfl) (by omega) (by rw [O7 hinv]; omega)) ?_
  refine T1 0 rfl rfl rfl (A0 rfl) (A0 rfl) (I6 _) rfl I1 rfl (by rw [O7 hinv]; omega) ?_
  refine A4 (A2 ?_)
  refine A5 rfl ?_
  refine A1 rfl (G6 rfl (A0 rfl) B3 (by first | omega | (simp only [D1, B1, szR] at *; omega))) ?_
  refine B5 rfl ?_
  refine A4 ?_
  refine G9 i (i + 1) ?_ ?_ (M7 (by exact congrArg (fun z => [Own.arr v7 43 4 z]) (V1 hx)) ⟨rfl, rfl, rfl, rfl, trivial⟩)
  ·omega
  omega
 intro h11
 have k11 := of_decide_eq_false h11; try simp only [A6] at k11
 have hge : l.length ≤ i := by omega
 rw [V2 hge]
 refine F3 ?_
 refine A3 (A2 ?_)
 refine A5 rfl ?_
 refine B5 rfl ?_
 refine A4 ?_
 refine B7 ?_
 refine V0 0 2 rfl rfl ?_
 exact D7 rfl (B6 rfl (by first | rfl | (refine congrArg AV.bool ?_; simp_all; done)))
theorem AD9 (a b : List TState) : FSpec Tryz.prog 13 [AV.list 4 (a.map TState.cs), AV.list 4 (b.map TState.cs)] (AV.bool (decide (a = b))) := by
 refine C1 Tryz.func13 rfl Tryz.ntmps13 rfl ?_
 refine J7 (t := 0) rfl fun hl => ?_
 try simp only [A6] at hl
 refine A3 (A2 ?_)
 refine A1 rfl (A8 rfl D8) ?_
 refine A4 (A3 (A3 (A2 ?_)))
 refine A5 rfl ?_
 refine A1 rfl (E4 rfl J0 (A0 rfl)) ?_
 refine A5 rfl ?_
 refine A1 rfl (E4 rfl J0 (A0 rfl)) ?_
 refine A1 rfl (Q4 rfl (A0 rfl) (A0 rfl)) ?_
 refine A4 ?_
 refine B8 (A0 rfl) ?_ ?_
 ·intro h10
  have k10 := N5 h10; try simp only [A6] at k10
  have hab : a ≠ b := by intro hc; subst hc; exact k10 rfl
  refine A3 (A2 ?_)
  refine A1 rfl (A8 rfl D8) ?_
  refine A4 ?_
  refine B7 ?_
  exact D7 rfl (B6 rfl (by exact congrArg AV.bool (by simp [hab])))
 intro h10
 have k10 := K0 h10; try simp only [A6] at k10
 have heq : a.length = b.length := by omega
 refine B9 (A3 (A3 (A2 ?_)))
 refine A1 rfl (A8 rfl B3) ?_
 refine A4 (C5 ?_)
 refine G0 [(0, _), (1, _)] _ (fun (i : Nat) => i ≤ a.length ∧ a.take i = b.take i) (fun (i : Nat) => []) (fun (i : Nat) => [(5, AV.int i)]) (fun (i : Nat) => a.length - i) (0) ?_ (G1 ⟨rfl, rfl, rfl, trivial⟩) ?_
 ·exact ⟨Nat.zero_le _, rfl⟩
 intro i hinv
 refine A3 (A3 (A2 ?_))
 refine A5 rfl ?_
 refine A5 rfl ?_
 refine A1 rfl (E4 rfl J0 (A0 rfl)) ?_
 refine A1 rfl (F8 rfl (A0 rfl) (A0 rfl)) ?_
 refine A4 ?_
 refine B8 (A0 rfl) ?_ ?_
 ·intro h14
  have k14 := of_decide_eq_true h14; try simp only [A6] at k14
  have hlt : i < a.length := by omega
  obtain ⟨x, hx⟩ := get_some hlt
  obtain ⟨y, hy⟩ := get_some (show i < b.length by omega)
  refine B9 (A3 (C5 (A3 ?_)))
  refine H5 (by kernel_rfl) (by kernel_rfl) rfl ?_
  refine B4 rfl rfl (C3 rfl (A0 rfl)) ?_
  refine B4 rfl rfl (C3 rfl (A0 rfl)) ?_
  refine B4 rfl rfl (M1 rfl J0 I1 (A0 rfl) (A0 rfl) (by omega) (by simp only [Int.toNat_natCast, List.getElem?_map, hx, Option.map_some]; try rfl)) ?_
  refine B4 rfl rfl (G8 rfl (A0 rfl) L0 I1) ?_
  refine B4 rfl rfl (C3 rfl (A0 rfl)) ?_
  refine B4 rfl rfl (C3 rfl (A0 rfl)) ?_
  refine B4 rfl rfl (M1 rfl J0 I1 (A0 rfl) (A0 rfl) (by omega) (by simp only [Int.toNat_natCast, List.getElem?_map, hy, Option.map_some]; try rfl)) ?_
  refine B4 rfl rfl (G8 rfl (A0 rfl) L0 I1) ?_
  refine B4 rfl rfl (D4 rfl Tryz.call19 rfl (AI2 _ _) (A9 (A0 rfl) (A9 (A0 rfl) C6))) ?_
  refine B4 rfl rfl (I3 rfl (A0 rfl)) ?_
  refine M6 ?_
  refine B8 (A0 rfl) ?_ ?_
  ·intro h26
   have hab : a ≠ b := by intro hc; subst hc; rw [hx] at hy; injection hy with hy; subst hy; simp at h26
   refine A3 (A2 ?_)
   refine A1 rfl (A8 rfl D8) ?_
   refine A4 ?_
   refine B7 ?_
   exact D7 rfl (B6 rfl (by exact congrArg AV.bool (by simp [hab])))
  intro h26
  refine B9 (A2 ?_)
  refine A5 rfl ?_
  refine A1 rfl (G6 rfl (A0 rfl) B3 (by first | omega | (simp only [D1, B1, szR] at *; omega))) ?_
  refine B5 rfl ?_
  refine A4 ?_
  refine G9 i (i + 1) ?_ ?_ (G1 ⟨rfl, rfl, rfl, trivial⟩)
  ·exact ⟨by omega, R4 hinv.2 hx (by rw [hy]; congr 1; simp_all)⟩
  omega
 intro h14
 have k14 := of_decide_eq_false h14; try simp only [A6] at k14
 have hge : a.length ≤ i := by omega
 have hab : a = b := T6 heq hinv.2 hge
 refine F3 ?_
 refine A3 (A2 ?_)
 refine A1 rfl (A8 rfl D8) ?_
 refine A4 ?_
 refine B7 ?_
 exact D7 rfl (B6 rfl (by exact congrArg AV.bool (by simp [hab])))
end Go.Proofs.YtkegepoihkhihaaGreat

namespace Go.M
open Go.AV
end Go.M
namespace Go.Proofs.YtkegepoihkhihaaGreat
open Go Go.AV Go.M
attribute [local irreducible] OpW OpA OpS AWP FSpec ESpec GSpec OpE RetOk RetOkG RvDen Le Ev GuardIs SrcIs Int.tmod Int.tdiv IntKind.wrap
end Go.Proofs.YtkegepoihkhihaaGreat

namespace Go.M
open Go.AV
end Go.M
namespace Go.Proofs.YtkegepoihkhihaaGreat
open Go Go.AV Go.M
attribute [local irreducible] OpW OpA OpS AWP FSpec ESpec GSpec OpE RetOk RetOkG RvDen Le Ev GuardIs SrcIs Int.tmod Int.tdiv IntKind.wrap
end Go.Proofs.YtkegepoihkhihaaGreat

namespace Go.M
open Go.AV
end Go.M
namespace Go.Proofs.YtkegepoihkhihaaGreat
open Go Go.AV Go.M
attribute [local irreducible] OpW OpA OpS AWP FSpec ESpec GSpec OpE RetOk RetOkG RvDen Le Ev GuardIs SrcIs Int.tmod Int.tdiv IntKind.wrap
end Go.Proofs.YtkegepoihkhihaaGreat

set_option maxHeartbeats 1000000
namespace Go.M
open Go.AV
end Go.M
namespace Go.Proofs.YtkegepoihkhihaaGreat
open Go Go.AV Go.M
attribute [local irreducible] OpW OpA OpS AWP FSpec ESpec GSpec OpE RetOk RetOkG RvDen Le Ev GuardIs SrcIs
end Go.Proofs.YtkegepoihkhihaaGreat

namespace Go.M
open Go.AV
structure TCur where
  p : Nat
  seed : Int
end Go.M

namespace Go.Proofs.YtkegepoihkhihaaGreat
open Go Go.AV Go.M
attribute [local irreducible] OpW OpA OpS AWP FSpec ESpec GSpec OpE RetOk RetOkG RvDen Le Ev GuardIs SrcIs Int.tmod IntKind.wrap bandI
end Go.Proofs.YtkegepoihkhihaaGreat

namespace Go.Proofs.YtkegepoihkhihaaGreat
open Go Go.AV Go.M
attribute [local irreducible] OpW OpA OpS AWP FSpec ESpec GSpec OpE RetOk RetOkG RvDen Le Ev GuardIs SrcIs
end Go.Proofs.YtkegepoihkhihaaGreat

namespace Go.Proofs.YtkegepoihkhihaaGreat
open Go Go.AV Go.M
attribute [local irreducible] OpW OpA OpS AWP FSpec ESpec GSpec OpE RetOk RetOkG RvDen Le Ev GuardIs SrcIs Int.tmod Int.tdiv IntKind.wrap bandI
end Go.Proofs.YtkegepoihkhihaaGreat

namespace Go.Proofs.YtkegepoihkhihaaGreat
open Go Go.AV Go.M
attribute [local irreducible] OpW OpA OpS AWP FSpec ESpec GSpec OpE RetOk RetOkG RvDen Le Ev GuardIs SrcIs Int.tmod Int.tdiv IntKind.wrap
theorem Y7 (n : Int) : FSpec Tryz.prog 93 [AV.int n] (AV.bool (isTxnR n)) := by
 refine C1 Tryz.func93 rfl Tryz.ntmps93 rfl ?_
 refine A3 (A2 ?_)
 refine A1 rfl (A8 rfl D8) ?_
 refine A4 (A3 (A2 ?_))
 refine A5 rfl ?_
 refine A1 rfl (D4 rfl Tryz.call82 rfl (Q6 _ _ _) (A9 (A0 rfl) (A9 B3 (A9 B3 C6)))) ?_
 refine B5 rfl ?_
 refine A4 ?_
 refine B7 ?_
 exact D7 rfl (B6 rfl (by rfl))
theorem AC8 {r : TRec} (hs : r.size ≤ 1048576) : (∀ k ∈ r.Reads, k.length ≤ 4611686018427387904) ∧ sizeL TWrite.size r.Writes ≤ 1048576 ∧ r.Reads.length ≤ 1048576 ∧ r.Writes.length ≤ 1048576 := by
  unfold TRec.size at hs
  have h1 := K9 (f := fun x : Str => x.length) (l := r.Reads)
  have h2 := K9 (f := TWrite.size) (l := r.Writes)
  exact ⟨fun k hk => by have := X2 (f := fun x : Str => x.length) hk; omega, by omega, by omega, by omega⟩
theorem AI3 (r : TRec) (hs : r.size ≤ 1048576) : FSpec Tryz.prog 136 [AV.agg r.cs] (AV.bool (goodRec r)) := by
 obtain ⟨hr1, hr2, hr3, hr4⟩ := AC8 hs
 refine C1 Tryz.func136 rfl Tryz.ntmps136 rfl ?_
 refine A3 (A2 ?_)
 refine I2 rfl rfl rfl rfl (A0 rfl) ?_
 intro b1
 refine A1 rfl (A8 rfl D8) ?_
 refine A4 (A3 (A2 ?_))
 refine A1 rfl (B2 3 rfl C8 rfl C2 (A0 rfl) rfl) ?_
 refine A1 rfl (B0 0 rfl (A0 rfl) rfl D0 rfl) ?_
 refine A1 rfl (N1 rfl (A0 rfl) B3) ?_
 refine A5 rfl ?_
 refine C4 rfl (fun hc => B2 4 rfl C8 rfl J2 (A0 rfl) rfl) ?_
 refine C4 rfl (fun hc => B0 0 rfl (A7 rfl hc) rfl K3 rfl) ?_
 refine C4 rfl (fun hc => E4 rfl C7 (A7 rfl hc)) ?_
 refine C4 rfl (fun hc => N1 rfl (A7 rfl hc) B3) ?_
 refine A1 rfl (G4 rfl (A0 rfl) (E9 rfl)) ?_
 refine A5 rfl ?_
 refine C4 rfl (fun hc => B2 5 rfl C8 rfl H7 (A0 rfl) rfl) ?_
 refine C4 rfl (fun hc => B0 0 rfl (A7 rfl hc) rfl I4 rfl) ?_
 refine C4 rfl (fun hc => E4 rfl E6 (A7 rfl hc)) ?_
 refine C4 rfl (fun hc => N1 rfl (A7 rfl hc) B3) ?_
 refine A1 rfl (G4 rfl (A0 rfl) (E9 rfl)) ?_
 refine B5 rfl ?_
 refine A4 (A3 (A3 (A2 ?_)))
 refine A1 rfl (B2 0 rfl C8 rfl C2 (A0 rfl) rfl) ?_
 refine A1 rfl (B0 0 rfl (A0 rfl) rfl D0 rfl) ?_
 refine A4 (C5 (A3 (A2 ?_)))
 refine A1 rfl (N1 rfl (A0 rfl) B3) ?_
 refine B5 rfl ?_
 refine A4 ?_
 refine B8 (A0 rfl) ?_ ?_
 ·intro h21
  have k21 := O5 h21; try simp only [A6] at k21
  refine A3 (A2 ?_)
  refine A1 rfl (B2 1 rfl C8 rfl C2 (A0 rfl) rfl) ?_
  refine A1 rfl (B0 0 rfl (A0 rfl) rfl D0 rfl) ?_
  refine A1 rfl (D4 rfl Tryz.call93 rfl (Y7 _) (A9 (A0 rfl) C6)) ?_
  refine A5 rfl ?_
  refine C4 rfl (fun hc => B2 2 rfl C8 rfl C2 (A0 rfl) rfl) ?_
  refine C4 rfl (fun hc => B0 0 rfl (A7 rfl hc) rfl D0 rfl) ?_
  refine C4 rfl (fun hc => D4 rfl Tryz.call111 rfl (U3 _) (A9 (A7 rfl hc) C6)) ?_
  refine A1 rfl (G4 rfl (A0 rfl) (E9 rfl)) ?_
  refine A5 rfl ?_
  refine C4 rfl (fun hc => B2 3 rfl C8 rfl C2 (A0 rfl) rfl) ?_
  refine C4 rfl (fun hc => B0 0 rfl (A7 rfl hc) rfl D0 rfl) ?_
  refine C4 rfl (fun hc => D4 rfl Tryz.call82 rfl (Q6 _ _ _) (A9 (A7 rfl hc) (A9 B3 (A9 B3 C6)))) ?_
  refine A1 rfl (G4 rfl (A0 rfl) (E9 rfl)) ?_
  refine A5 rfl ?_
  refine C4 rfl (fun hc => B2 4 rfl C8 rfl J2 (A0 rfl) rfl) ?_
  refine C4 rfl (fun hc => B0 0 rfl (A7 rfl hc) rfl K3 rfl) ?_
  refine C4 rfl (fun hc => E4 rfl C7 (A7 rfl hc)) ?_
  refine C4 rfl (fun hc => O6 rfl (A7 rfl hc) B3) ?_
  refine A1 rfl (G4 rfl (A0 rfl) (E9 rfl)) ?_
  refine A5 rfl ?_
  refine C4 rfl (fun hc => B2 4 rfl C8 rfl J2 (A0 rfl) rfl) ?_
  refine C4 rfl (fun hc => B0 0 rfl (A7 rfl hc) rfl K3 rfl) ?_
  refine C4 rfl (fun hc => D4 rfl Tryz.call119 rfl (Y3 r.Reads hr1) (A9 (A7 rfl hc) C6)) ?_
  refine A1 rfl (G4 rfl (A0 rfl) (E9 rfl)) ?_
  refine A5 rfl ?_
  refine C4 rfl (fun hc => B2 5 rfl C8 rfl H7 (A0 rfl) rfl) ?_
  refine C4 rfl (fun hc => B0 0 rfl (A7 rfl hc) rfl I4 rfl) ?_
  refine C4 rfl (fun hc => E4 rfl E6 (A7 rfl hc)) ?_
  refine C4 rfl (fun hc => O6 rfl (A7 rfl hc) B3) ?_
  refine A1 rfl (G4 rfl (A0 rfl) (E9 rfl)) ?_
  refine A5 rfl ?_
  refine C4 rfl (fun hc => B2 5 rfl C8 rfl H7 (A0 rfl) rfl) ?_
  refine C4 rfl (fun hc => B0 0 rfl (A7 rfl hc) rfl I4 rfl) ?_
  refine C4 rfl (fun hc => D4 rfl Tryz.call185 rfl (u4 r.Writes (by omega)) (A9 (A7 rfl hc) C6)) ?_
  refine A1 rfl (G4 rfl (A0 rfl) (E9 rfl)) ?_
  refine A5 rfl ?_
  refine C4 rfl (fun hc => B2 4 rfl C8 rfl J2 (A0 rfl) rfl) ?_
  refine C4 rfl (fun hc => B0 0 rfl (A7 rfl hc) rfl K3 rfl) ?_
  refine C4 rfl (fun hc => E4 rfl C7 (A7 rfl hc)) ?_
  refine C4 rfl (fun hc => B2 5 rfl C8 rfl H7 (A0 rfl) rfl) ?_
  refine C4 rfl (fun hc => B0 0 rfl (A7 rfl hc) rfl I4 rfl) ?_
  refine C4 rfl (fun hc => E4 rfl E6 (A7 rfl hc)) ?_
  refine C4 rfl (fun hc => G6 rfl (A7 rfl hc) (A7 rfl hc) (by first | omega | ((try simp only [D1, B1, szR] at *); omega) | (have hc2 := hc; simp only [L4, beq_iff_eq, bne_iff_ne, A6, G2] at hc2; omega))) ?_
  refine C4 rfl (fun hc => P8 rfl (A7 rfl hc) B3) ?_
  refine A1 rfl (G4 rfl (A0 rfl) (E9 rfl)) ?_
  refine A5 rfl ?_
  refine C4 rfl (fun hc => B2 6 rfl C8 rfl G7 (A0 rfl) rfl) ?_
  refine C4 rfl (fun hc => B0 0 rfl (A7 rfl hc) rfl H9 rfl) ?_
  refine C4 rfl (fun hc => I3 rfl (A7 rfl hc)) ?_
  refine A1 rfl (G4 rfl (A0 rfl) (E9 rfl)) ?_
  refine B5 rfl ?_
  refine A4 ?_
  refine B7 ?_
  exact D7 rfl (B6 rfl (by first | (exfalso; omega) | exact congrArg AV.bool (by unfold goodRec good1 good2 good4 bareR; simp [*])))
 intro h21
 have k21 := O4 h21; try simp only [A6] at k21
 refine A3 (A3 (A2 ?_))
 refine A1 rfl (N1 rfl (A0 rfl) B3) ?_
 refine B5 rfl ?_
 refine A4 ?_
 refine B8 (A0 rfl) ?_ ?_
 ·intro h73
  have k73 := O5 h73; try simp only [A6] at k73
  refine B9 ?_
  refine B8 (A0 rfl) ?_ ?_
  ·intro h73
   have k73 := O5 h73; try simp only [A6] at k73
   refine A3 (A2 ?_)
   refine A5 rfl ?_
   refine A5 rfl ?_
   refine C4 rfl (fun hc => B2 1 rfl C8 rfl C2 (A0 rfl) rfl) ?_
   refine C4 rfl (fun hc => B0 0 rfl (A7 rfl hc) rfl D0 rfl) ?_
   refine C4 rfl (fun hc => D4 rfl Tryz.call93 rfl (Y7 _) (A9 (A7 rfl hc) C6)) ?_
   refine A1 rfl (G4 rfl (A0 rfl) (E9 rfl)) ?_
   refine A5 rfl ?_
   refine C4 rfl (fun hc => B2 6 rfl C8 rfl G7 (A0 rfl) rfl) ?_
   refine C4 rfl (fun hc => B0 0 rfl (A7 rfl hc) rfl H9 rfl) ?_
   refine C4 rfl (fun hc => C3 rfl (A7 rfl hc)) ?_
   refine F9 rfl rfl (C9 rfl rfl rfl) (fun hc => B2 2 rfl C8 rfl C2 (A0 rfl) rfl) ?_
   refine F9 rfl rfl (C9 rfl rfl rfl) (fun hc => B0 0 rfl (A7 rfl hc) rfl D0 rfl) ?_
   refine F9 rfl rfl (C9 rfl rfl rfl) (fun hc => D4 rfl Tryz.call111 rfl (U3 _) (A9 (A7 rfl hc) C6)) ?_
   refine C4 rfl (fun hc => G4 rfl (A7 rfl hc) (K4 rfl hc)) ?_
   refine C4 rfl (fun hc => C3 rfl (A7 rfl hc)) ?_
   refine F9 rfl rfl (J4 rfl rfl rfl) (fun hc => B2 6 rfl C8 rfl G7 (A0 rfl) rfl) ?_
   refine F9 rfl rfl (J4 rfl rfl rfl) (fun hc => B0 0 rfl (A7 rfl hc) rfl H9 rfl) ?_
   refine F9 rfl rfl (J4 rfl rfl rfl) (fun hc => I3 rfl (A7 rfl hc)) ?_
   refine F9 rfl rfl (J4 rfl rfl rfl) (fun hc => C3 rfl (A7 rfl hc)) ?_
   refine F9 rfl rfl (C9 rfl rfl rfl) (fun hc => B2 2 rfl C8 rfl C2 (A0 rfl) rfl) ?_
   refine F9 rfl rfl (C9 rfl rfl rfl) (fun hc => B0 0 rfl (A7 rfl hc) rfl D0 rfl) ?_
   refine F9 rfl rfl (C9 rfl rfl rfl) (fun hc => N1 rfl (A7 rfl hc) B3) ?_
   refine F9 rfl rfl (J4 rfl rfl rfl) (fun hc => G4 rfl (A7 rfl hc) (K4 rfl hc)) ?_
   refine C4 rfl (fun hc => M5 rfl (A7 rfl hc) (K4 rfl hc)) ?_
   refine A1 rfl (G4 rfl (A0 rfl) (E9 rfl)) ?_
   refine B5 rfl ?_
   refine A4 ?_
   refine B7 ?_
   exact D7 rfl (B6 rfl (by first | (exfalso; omega) | exact congrArg AV.bool (by unfold goodRec good1 good2 good4 bareR; simp [*])))
  intro h73
  have k73 := O4 h73; try simp only [A6] at k73
  refine A3 (A2 ?_)
  refine A1 rfl (N1 rfl (A0 rfl) B3) ?_
  refine B5 rfl ?_
  refine A4 ?_
  refine B8 (A0 rfl) ?_ ?_
  ·intro h101
   have k101 := O5 h101; try simp only [A6] at k101
   refine A3 (A2 ?_)
   refine A5 rfl ?_
   refine A5 rfl ?_
   refine C4 rfl (fun hc => B2 1 rfl C8 rfl C2 (A0 rfl) rfl) ?_
   refine C4 rfl (fun hc => B0 0 rfl (A7 rfl hc) rfl D0 rfl) ?_
   refine C4 rfl (fun hc => N1 rfl (A7 rfl hc) B3) ?_
   refine A1 rfl (G4 rfl (A0 rfl) (E9 rfl)) ?_
   refine A5 rfl ?_
   refine C4 rfl (fun hc => B2 2 rfl C8 rfl C2 (A0 rfl) rfl) ?_
   refine C4 rfl (fun hc => B0 0 rfl (A7 rfl hc) rfl D0 rfl) ?_
   refine C4 rfl (fun hc => D4 rfl Tryz.call111 rfl (U3 _) (A9 (A7 rfl hc) C6)) ?_
   refine A1 rfl (G4 rfl (A0 rfl) (E9 rfl)) ?_
   refine A5 rfl ?_
   refine C4 rfl (fun hc => B2 6 rfl C8 rfl G7 (A0 rfl) rfl) ?_
   refine C4 rfl (fun hc => B0 0 rfl (A7 rfl hc) rfl H9 rfl) ?_
   refine C4 rfl (fun hc => I3 rfl (A7 rfl hc)) ?_
   refine A1 rfl (G4 rfl (A0 rfl) (E9 rfl)) ?_
   refine B5 rfl ?_
   refine A4 ?_
   refine B7 ?_
   exact D7 rfl (B6 rfl (by first | (exfalso; omega) | exact congrArg AV.bool (by unfold goodRec good1 good2 good4 bareR; simp [*])))
  intro h101
  have k101 := O4 h101; try simp only [A6] at k101
  refine B9 (A3 (A2 ?_))
  refine A1 rfl (A8 rfl D8) ?_
  refine A4 ?_
  refine B7 ?_
  exact D7 rfl (B6 rfl (by first | (exfalso; omega) | exact congrArg AV.bool (by unfold goodRec good1 good2 good4 bareR; simp [*])))
 intro h73
 have k73 := O4 h73; try simp only [A6] at k73
 refine A2 ?_
 refine A1 rfl (N1 rfl (A0 rfl) B3) ?_
 refine B5 rfl ?_
 refine A4 ?_
 refine B8 (A0 rfl) ?_ ?_
 ·intro h73
  have k73 := O5 h73; try simp only [A6] at k73
  refine A3 (A2 ?_)
  refine A5 rfl ?_
  refine A5 rfl ?_
  refine C4 rfl (fun hc => B2 1 rfl C8 rfl C2 (A0 rfl) rfl) ?_
  refine C4 rfl (fun hc => B0 0 rfl (A7 rfl hc) rfl D0 rfl) ?_
  refine C4 rfl (fun hc => D4 rfl Tryz.call93 rfl (Y7 _) (A9 (A7 rfl hc) C6)) ?_
  refine A1 rfl (G4 rfl (A0 rfl) (E9 rfl)) ?_
  refine A5 rfl ?_
  refine C4 rfl (fun hc => B2 6 rfl C8 rfl G7 (A0 rfl) rfl) ?_
  refine C4 rfl (fun hc => B0 0 rfl (A7 rfl hc) rfl H9 rfl) ?_
  refine C4 rfl (fun hc => C3 rfl (A7 rfl hc)) ?_
  refine F9 rfl rfl (C9 rfl rfl rfl) (fun hc => B2 2 rfl C8 rfl C2 (A0 rfl) rfl) ?_
  refine F9 rfl rfl (C9 rfl rfl rfl) (fun hc => B0 0 rfl (A7 rfl hc) rfl D0 rfl) ?_
  refine F9 rfl rfl (C9 rfl rfl rfl) (fun hc => D4 rfl Tryz.call111 rfl (U3 _) (A9 (A7 rfl hc) C6)) ?_
  refine C4 rfl (fun hc => G4 rfl (A7 rfl hc) (K4 rfl hc)) ?_
  refine C4 rfl (fun hc => C3 rfl (A7 rfl hc)) ?_
  refine F9 rfl rfl (J4 rfl rfl rfl) (fun hc => B2 6 rfl C8 rfl G7 (A0 rfl) rfl) ?_
  refine F9 rfl rfl (J4 rfl rfl rfl) (fun hc => B0 0 rfl (A7 rfl hc) rfl H9 rfl) ?_
  refine F9 rfl rfl (J4 rfl rfl rfl) (fun hc => I3 rfl (A7 rfl hc)) ?_
  refine F9 rfl rfl (J4 rfl rfl rfl) (fun hc => C3 rfl (A7 rfl hc)) ?_
  refine F9 rfl rfl (C9 rfl rfl rfl) (fun hc => B2 2 rfl C8 rfl C2 (A0 rfl) rfl) ?_
  refine F9 rfl rfl (C9 rfl rfl rfl) (fun hc => B0 0 rfl (A7 rfl hc) rfl D0 rfl) ?_
  refine F9 rfl rfl (C9 rfl rfl rfl) (fun hc => N1 rfl (A7 rfl hc) B3) ?_
  refine F9 rfl rfl (J4 rfl rfl rfl) (fun hc => G4 rfl (A7 rfl hc) (K4 rfl hc)) ?_
  refine C4 rfl (fun hc => M5 rfl (A7 rfl hc) (K4 rfl hc)) ?_
  refine A1 rfl (G4 rfl (A0 rfl) (E9 rfl)) ?_
  refine B5 rfl ?_
  refine A4 ?_
  refine B7 ?_
  exact D7 rfl (B6 rfl (by first | (exfalso; omega) | exact congrArg AV.bool (by unfold goodRec good1 good2 good4 bareR; simp [*])))
 intro h73
 have k73 := O4 h73; try simp only [A6] at k73
 refine A3 (A2 ?_)
 refine A1 rfl (N1 rfl (A0 rfl) B3) ?_
 refine B5 rfl ?_
 refine A4 ?_
 refine B8 (A0 rfl) ?_ ?_
 ·intro h101
  have k101 := O5 h101; try simp only [A6] at k101
  refine A3 (A2 ?_)
  refine A5 rfl ?_
  refine A5 rfl ?_
  refine C4 rfl (fun hc => B2 1 rfl C8 rfl C2 (A0 rfl) rfl) ?_
  refine C4 rfl (fun hc => B0 0 rfl (A7 rfl hc) rfl D0 rfl) ?_
  refine C4 rfl (fun hc => N1 rfl (A7 rfl hc) B3) ?_
  refine A1 rfl (G4 rfl (A0 rfl) (E9 rfl)) ?_
  refine A5 rfl ?_
  refine C4 rfl (fun hc => B2 2 rfl C8 rfl C2 (A0 rfl) rfl) ?_
  refine C4 rfl (fun hc => B0 0 rfl (A7 rfl hc) rfl D0 rfl) ?_
  refine C4 rfl (fun hc => D4 rfl Tryz.call111 rfl (U3 _) (A9 (A7 rfl hc) C6)) ?_
  refine A1 rfl (G4 rfl (A0 rfl) (E9 rfl)) ?_
  refine A5 rfl ?_
  refine C4 rfl (fun hc => B2 6 rfl C8 rfl G7 (A0 rfl) rfl) ?_
  refine C4 rfl (fun hc => B0 0 rfl (A7 rfl hc) rfl H9 rfl) ?_
  refine C4 rfl (fun hc => I3 rfl (A7 rfl hc)) ?_
  refine A1 rfl (G4 rfl (A0 rfl) (E9 rfl)) ?_
  refine B5 rfl ?_
  refine A4 ?_
  refine B7 ?_
  exact D7 rfl (B6 rfl (by first | (exfalso; omega) | exact congrArg AV.bool (by unfold goodRec good1 good2 good4 bareR; simp [*])))
 intro h101
 have k101 := O4 h101; try simp only [A6] at k101
 refine B9 (A3 (A2 ?_))
 refine A1 rfl (A8 rfl D8) ?_
 refine A4 ?_
 refine B7 ?_
 exact D7 rfl (B6 rfl (by first | (exfalso; omega) | exact congrArg AV.bool (by unfold goodRec good1 good2 good4 bareR; simp [*])))
theorem AM5 (l : List Str) (hs : ∀ k ∈ l, k.length ≤ 4611686018427387904) : FSpec Tryz.prog 162 [strs l] (AV.bool (l4Keys l)) := by
 refine C1 Tryz.func162 rfl Tryz.ntmps162 rfl ?_
 refine J7 (t := 0) rfl fun hl => ?_
 try simp only [A6] at hl
 refine A3 (A2 ?_)
 refine A1 rfl (A8 rfl D8) ?_
 refine A4 (A3 (A3 (A2 ?_)))
 refine A5 rfl ?_
 refine A1 rfl (E4 rfl C7 (A0 rfl)) ?_
 refine A1 rfl (C3 rfl B3) ?_
 refine A4 (C5 ?_)
 refine G0 [(0, _), (5, _), (6, _)] _ (fun (i : Nat) => i ≤ l.length ∧ (l.all l3Key && adj Op.bytesLess l) = ((l.drop i).all l3Key && adj Op.bytesLess (l.drop (i - 1)))) (fun (i : Nat) => []) (fun (i : Nat) => [(7, AV.int i)]) (fun (i : Nat) => l.length - i) (0) ?_ (G1 ⟨rfl, rfl, rfl, rfl, trivial⟩) ?_
 ·exact ⟨Nat.zero_le _, rfl⟩
 intro i hinv
 refine A3 (A2 ?_)
 refine A1 rfl (F8 rfl (A0 rfl) (A0 rfl)) ?_
 refine A4 (A3 ?_)
 refine B8 (A0 rfl) ?_ ?_
 ·intro h8
  have k8 := of_decide_eq_true h8; try simp only [A6] at k8
  have hlt : i < l.length := by omega
  obtain ⟨x, hx⟩ := get_some hlt
  obtain ⟨y, hy⟩ := get_some (show i - 1 < l.length by omega)
  have hsx := hs x (H0 hx)
  refine B9 (A3 (C5 (A3 (A2 ?_))))
  refine A5 rfl ?_
  refine A1 rfl (M1 rfl C7 D2 (A0 rfl) (A0 rfl) (by omega) (by simp only [Int.toNat_natCast, List.getElem?_map, hx, Option.map_some]; try rfl)) ?_
  refine A1 rfl (I9 rfl (A0 rfl) E5 rfl) ?_
  refine B5 rfl ?_
  refine B5 rfl ?_
  refine A4 (A3 (A2 ?_))
  refine A5 rfl ?_
  refine A1 rfl (D4 rfl Tryz.call198 rfl (i9 _ (by omega)) (A9 (A0 rfl) C6)) ?_
  refine A1 rfl (I3 rfl (A0 rfl)) ?_
  refine A5 rfl ?_
  refine I0 rfl (fun hc => C3 rfl (A0 rfl)) ?_
  refine I0 rfl (fun hc => P8 rfl (A7 rfl hc) B3) ?_
  refine I0 rfl (fun hc => C3 rfl (A7 rfl hc)) ?_
  refine F9 rfl rfl (C9 rfl rfl rfl) (fun hc => C3 rfl (A0 rfl)) ?_
  refine F9 rfl rfl (C9 rfl rfl rfl) (fun hc => C3 rfl (A0 rfl)) ?_
  refine F9 rfl rfl (C9 rfl rfl rfl) (fun hc => L1 rfl (A7 rfl hc) B3 (by first | omega | ((try simp only [D1, B1, szR] at *); omega) | (have hc2 := hc; simp only [L4, beq_iff_eq, bne_iff_ne, A6, G2] at hc2; omega))) ?_
  refine F9 rfl rfl (C9 rfl rfl rfl) (fun hc => M1 rfl C7 D2 (A7 rfl hc) (A7 rfl hc) (by have := of_decide_eq_true (and_r hc); omega) (by have := of_decide_eq_true (and_r hc); rw [show ((i : Int) - 1).toNat = i - 1 by omega]; simp only [List.getElem?_map, hy, Option.map_some]; try rfl)) ?_
  refine F9 rfl rfl (C9 rfl rfl rfl) (fun hc => I9 rfl (A7 rfl hc) E5 rfl) ?_
  refine F9 rfl rfl (C9 rfl rfl rfl) (fun hc => C3 rfl (A0 rfl)) ?_
  refine F9 rfl rfl (C9 rfl rfl rfl) (fun hc => AF6 rfl (A7 rfl hc) (A7 rfl hc)) ?_
  refine I0 rfl (fun hc => G4 rfl (A7 rfl hc) (K4 rfl hc)) ?_
  refine A1 rfl (M5 rfl (A0 rfl) (E9 rfl)) ?_
  refine A4 ?_
  refine B8 (A0 rfl) ?_ ?_
  ·intro h27
   have hfin : (l.all l3Key && adj Op.bytesLess l) = false := by rw [hinv.2, drop_some hx, List.all_cons]; cases hg : l3Key x with | false => simp | true => (simp only [hg, Bool.not_true, Bool.false_or, Bool.and_eq_true, decide_eq_true_eq, Bool.not_eq_true'] at h27; rw [X9 hx hy (by omega) h27.2]; simp)
   refine A3 (A2 ?_)
   refine A1 rfl (A8 rfl D8) ?_
   refine A4 ?_
   refine B7 ?_
   exact D7 rfl (B6 rfl (by first | exact congrArg AV.bool (by unfold l4Keys; rw [hfin]; rfl) | exact congrArg AV.bool (by unfold l4Keys; rw [hinv.2, R5 hge, List.drop_eq_nil_of_le hge]; simp)))
  intro h27
  refine B9 (A2 ?_)
  refine A1 rfl (G6 rfl (A0 rfl) B3 (by first | omega | (simp only [D1, B1, szR] at *; omega))) ?_
  refine A5 rfl ?_
  refine A4 ?_
  refine G9 i (i + 1) ?_ ?_ (G1 ⟨rfl, rfl, rfl, rfl, trivial⟩)
  ·exact ⟨by omega, by rw [hinv.2, drop_some hx, List.all_cons, X8 hx hy (fun h0 => by simp_all), show l3Key x = true by simp_all, Bool.true_and]⟩
  omega
 intro h8
 have k8 := of_decide_eq_false h8; try simp only [A6] at k8
 have hge : l.length ≤ i := by omega
 refine F3 ?_
 refine A3 (A2 ?_)
 refine A5 rfl ?_
 refine A1 rfl (E4 rfl C7 (A0 rfl)) ?_
 refine A1 rfl (O6 rfl (A0 rfl) B3) ?_
 refine B5 rfl ?_
 refine A4 ?_
 refine B7 ?_
 exact D7 rfl (B6 rfl (by first | exact congrArg AV.bool (by unfold l4Keys; rw [hfin]; rfl) | exact congrArg AV.bool (by unfold l4Keys; rw [hinv.2, R5 hge, List.drop_eq_nil_of_le hge]; simp)))
theorem AM6 (r : TRec) (hs : r.size ≤ 1048576) : FSpec Tryz.prog 106 [AV.agg r.cs] (AV.bool (l4Good r)) := by
 obtain ⟨hr1, hr2, hr3, hr4⟩ := AC8 hs
 refine C1 Tryz.func106 rfl Tryz.ntmps106 rfl ?_
 refine A3 (A2 ?_)
 refine I2 rfl rfl rfl rfl (A0 rfl) ?_
 intro b1
 refine A1 rfl (A8 rfl D8) ?_
 refine A4 (A3 (A3 (A2 ?_)))
 refine A1 rfl (B2 0 rfl C8 rfl C2 (A0 rfl) rfl) ?_
 refine A1 rfl (B0 0 rfl (A0 rfl) rfl D0 rfl) ?_
 refine A1 rfl (Q4 rfl (A0 rfl) B3) ?_
 refine A5 rfl ?_
 refine C4 rfl (fun hc => B2 3 rfl C8 rfl C2 (A0 rfl) rfl) ?_
 refine C4 rfl (fun hc => B0 0 rfl (A7 rfl hc) rfl D0 rfl) ?_
 refine C4 rfl (fun hc => Q4 rfl (A7 rfl hc) B3) ?_
 refine C4 rfl (fun hc => C3 rfl (A7 rfl hc)) ?_
 refine F9 rfl rfl (J4 rfl rfl rfl) (fun hc => B2 4 rfl C8 rfl J2 (A0 rfl) rfl) ?_
 refine F9 rfl rfl (J4 rfl rfl rfl) (fun hc => B0 0 rfl (A7 rfl hc) rfl K3 rfl) ?_
 refine F9 rfl rfl (J4 rfl rfl rfl) (fun hc => E4 rfl C7 (A7 rfl hc)) ?_
 refine F9 rfl rfl (J4 rfl rfl rfl) (fun hc => B2 5 rfl C8 rfl H7 (A0 rfl) rfl) ?_
 refine F9 rfl rfl (J4 rfl rfl rfl) (fun hc => B0 0 rfl (A7 rfl hc) rfl I4 rfl) ?_
 refine F9 rfl rfl (J4 rfl rfl rfl) (fun hc => E4 rfl E6 (A7 rfl hc)) ?_
 refine F9 rfl rfl (J4 rfl rfl rfl) (fun hc => G6 rfl (A7 rfl hc) (A7 rfl hc) (by first | omega | ((try simp only [D1, B1, szR] at *); omega) | (have hc2 := hc; simp only [L4, beq_iff_eq, bne_iff_ne, A6, G2] at hc2; omega))) ?_
 refine F9 rfl rfl (J4 rfl rfl rfl) (fun hc => P8 rfl (A7 rfl hc) B3) ?_
 refine C4 rfl (fun hc => M5 rfl (A7 rfl hc) (K4 rfl hc)) ?_
 refine A1 rfl (G4 rfl (A0 rfl) (E9 rfl)) ?_
 refine A4 ?_
 refine B8 (A0 rfl) ?_ ?_
 ·intro h20
  have ho : oddR r = true := by (unfold oddR; simpa using h20)
  refine A3 (A2 ?_)
  refine A1 rfl (A8 rfl D8) ?_
  refine A4 ?_
  refine B7 ?_
  exact D7 rfl (B6 rfl (by first | (exfalso; omega) | exact congrArg AV.bool (by unfold l4Good; rw [ho]; first | rfl | (unfold l4G1 l4G2 l4G4; simp [*]))))
 intro h20
 have ho : oddR r = false := by (unfold oddR; simpa using h20)
 refine B9 (A3 (A3 (A2 ?_)))
 refine A1 rfl (B2 0 rfl C8 rfl C2 (A0 rfl) rfl) ?_
 refine A1 rfl (B0 0 rfl (A0 rfl) rfl D0 rfl) ?_
 refine A4 (C5 (A3 (A2 ?_)))
 refine A1 rfl (N1 rfl (A0 rfl) B3) ?_
 refine B5 rfl ?_
 refine A4 ?_
 refine B8 (A0 rfl) ?_ ?_
 ·intro h23
  have k23 := O5 h23; try simp only [A6] at k23
  refine A3 (A2 ?_)
  refine A1 rfl (B2 1 rfl C8 rfl C2 (A0 rfl) rfl) ?_
  refine A1 rfl (B0 0 rfl (A0 rfl) rfl D0 rfl) ?_
  refine A1 rfl (D4 rfl Tryz.call39 rfl (P7 _ _ _) (A9 (A0 rfl) (A9 B3 (A9 B3 C6)))) ?_
  refine A5 rfl ?_
  refine C4 rfl (fun hc => B2 2 rfl C8 rfl C2 (A0 rfl) rfl) ?_
  refine C4 rfl (fun hc => B0 0 rfl (A7 rfl hc) rfl D0 rfl) ?_
  refine C4 rfl (fun hc => D4 rfl Tryz.call161 rfl (U4 _) (A9 (A7 rfl hc) C6)) ?_
  refine A1 rfl (G4 rfl (A0 rfl) (E9 rfl)) ?_
  refine A5 rfl ?_
  refine C4 rfl (fun hc => B2 3 rfl C8 rfl C2 (A0 rfl) rfl) ?_
  refine C4 rfl (fun hc => B0 0 rfl (A7 rfl hc) rfl D0 rfl) ?_
  refine C4 rfl (fun hc => D4 rfl Tryz.call39 rfl (P7 _ _ _) (A9 (A7 rfl hc) (A9 B3 (A9 B3 C6)))) ?_
  refine A1 rfl (G4 rfl (A0 rfl) (E9 rfl)) ?_
  refine A5 rfl ?_
  refine C4 rfl (fun hc => B2 4 rfl C8 rfl J2 (A0 rfl) rfl) ?_
  refine C4 rfl (fun hc => B0 0 rfl (A7 rfl hc) rfl K3 rfl) ?_
  refine C4 rfl (fun hc => D4 rfl Tryz.call162 rfl (AM5 r.Reads hr1) (A9 (A7 rfl hc) C6)) ?_
  refine A1 rfl (G4 rfl (A0 rfl) (E9 rfl)) ?_
  refine A5 rfl ?_
  refine C4 rfl (fun hc => B2 5 rfl C8 rfl H7 (A0 rfl) rfl) ?_
  refine C4 rfl (fun hc => B0 0 rfl (A7 rfl hc) rfl I4 rfl) ?_
  refine C4 rfl (fun hc => D4 rfl Tryz.call163 rfl (AD4 r.Writes (by omega)) (A9 (A7 rfl hc) C6)) ?_
  refine A1 rfl (G4 rfl (A0 rfl) (E9 rfl)) ?_
  refine A5 rfl ?_
  refine C4 rfl (fun hc => B2 5 rfl C8 rfl H7 (A0 rfl) rfl) ?_
  refine C4 rfl (fun hc => B0 0 rfl (A7 rfl hc) rfl I4 rfl) ?_
  refine C4 rfl (fun hc => E4 rfl E6 (A7 rfl hc)) ?_
  refine C4 rfl (fun hc => D4 rfl Tryz.call39 rfl (P7 _ _ _) (A9 (A7 rfl hc) (A9 B3 (A9 B3 C6)))) ?_
  refine A1 rfl (G4 rfl (A0 rfl) (E9 rfl)) ?_
  refine A5 rfl ?_
  refine C4 rfl (fun hc => B2 4 rfl C8 rfl J2 (A0 rfl) rfl) ?_
  refine C4 rfl (fun hc => B0 0 rfl (A7 rfl hc) rfl K3 rfl) ?_
  refine C4 rfl (fun hc => E4 rfl C7 (A7 rfl hc)) ?_
  refine C4 rfl (fun hc => B2 5 rfl C8 rfl H7 (A0 rfl) rfl) ?_
  refine C4 rfl (fun hc => B0 0 rfl (A7 rfl hc) rfl I4 rfl) ?_
  refine C4 rfl (fun hc => E4 rfl E6 (A7 rfl hc)) ?_
  refine C4 rfl (fun hc => G6 rfl (A7 rfl hc) (A7 rfl hc) (by first | omega | ((try simp only [D1, B1, szR] at *); omega) | (have hc2 := hc; simp only [L4, beq_iff_eq, bne_iff_ne, A6, G2] at hc2; omega))) ?_
  refine C4 rfl (fun hc => P8 rfl (A7 rfl hc) B3) ?_
  refine A1 rfl (G4 rfl (A0 rfl) (E9 rfl)) ?_
  refine A5 rfl ?_
  refine C4 rfl (fun hc => B2 6 rfl C8 rfl G7 (A0 rfl) rfl) ?_
  refine C4 rfl (fun hc => B0 0 rfl (A7 rfl hc) rfl H9 rfl) ?_
  refine C4 rfl (fun hc => I3 rfl (A7 rfl hc)) ?_
  refine A1 rfl (G4 rfl (A0 rfl) (E9 rfl)) ?_
  refine B5 rfl ?_
  refine A4 ?_
  refine B7 ?_
  exact D7 rfl (B6 rfl (by first | (exfalso; omega) | exact congrArg AV.bool (by unfold l4Good; rw [ho]; first | rfl | (unfold l4G1 l4G2 l4G4; simp [*]))))
 intro h23
 have k23 := O4 h23; try simp only [A6] at k23
 refine A3 (A3 (A2 ?_))
 refine A1 rfl (N1 rfl (A0 rfl) B3) ?_
 refine B5 rfl ?_
 refine A4 ?_
 refine B8 (A0 rfl) ?_ ?_
 ·intro h69
  have k69 := O5 h69; try simp only [A6] at k69
  refine B9 ?_
  refine B8 (A0 rfl) ?_ ?_
  ·intro h69
   have k69 := O5 h69; try simp only [A6] at k69
   refine A3 (A2 ?_)
   refine A1 rfl (B2 1 rfl C8 rfl C2 (A0 rfl) rfl) ?_
   refine A1 rfl (B0 0 rfl (A0 rfl) rfl D0 rfl) ?_
   refine A1 rfl (D4 rfl Tryz.call39 rfl (P7 _ _ _) (A9 (A0 rfl) (A9 B3 (A9 B3 C6)))) ?_
   refine A5 rfl ?_
   refine C4 rfl (fun hc => B2 6 rfl C8 rfl G7 (A0 rfl) rfl) ?_
   refine C4 rfl (fun hc => B0 0 rfl (A7 rfl hc) rfl H9 rfl) ?_
   refine C4 rfl (fun hc => C3 rfl (A7 rfl hc)) ?_
   refine F9 rfl rfl (C9 rfl rfl rfl) (fun hc => B2 2 rfl C8 rfl C2 (A0 rfl) rfl) ?_
   refine F9 rfl rfl (C9 rfl rfl rfl) (fun hc => B0 0 rfl (A7 rfl hc) rfl D0 rfl) ?_
   refine F9 rfl rfl (C9 rfl rfl rfl) (fun hc => D4 rfl Tryz.call161 rfl (U4 _) (A9 (A7 rfl hc) C6)) ?_
   refine C4 rfl (fun hc => G4 rfl (A7 rfl hc) (K4 rfl hc)) ?_
   refine C4 rfl (fun hc => C3 rfl (A7 rfl hc)) ?_
   refine F9 rfl rfl (J4 rfl rfl rfl) (fun hc => B2 6 rfl C8 rfl G7 (A0 rfl) rfl) ?_
   refine F9 rfl rfl (J4 rfl rfl rfl) (fun hc => B0 0 rfl (A7 rfl hc) rfl H9 rfl) ?_
   refine F9 rfl rfl (J4 rfl rfl rfl) (fun hc => I3 rfl (A7 rfl hc)) ?_
   refine F9 rfl rfl (J4 rfl rfl rfl) (fun hc => C3 rfl (A7 rfl hc)) ?_
   refine F9 rfl rfl (C9 rfl rfl rfl) (fun hc => B2 2 rfl C8 rfl C2 (A0 rfl) rfl) ?_
   refine F9 rfl rfl (C9 rfl rfl rfl) (fun hc => B0 0 rfl (A7 rfl hc) rfl D0 rfl) ?_
   refine F9 rfl rfl (C9 rfl rfl rfl) (fun hc => N1 rfl (A7 rfl hc) B3) ?_
   refine F9 rfl rfl (J4 rfl rfl rfl) (fun hc => G4 rfl (A7 rfl hc) (K4 rfl hc)) ?_
   refine C4 rfl (fun hc => M5 rfl (A7 rfl hc) (K4 rfl hc)) ?_
   refine A1 rfl (G4 rfl (A0 rfl) (E9 rfl)) ?_
   refine B5 rfl ?_
   refine A4 ?_
   refine B7 ?_
   exact D7 rfl (B6 rfl (by first | (exfalso; omega) | exact congrArg AV.bool (by unfold l4Good; rw [ho]; first | rfl | (unfold l4G1 l4G2 l4G4; simp [*]))))
  intro h69
  have k69 := O4 h69; try simp only [A6] at k69
  refine B9 (A3 (A2 ?_))
  refine A1 rfl (B2 0 rfl C8 rfl C2 (A0 rfl) rfl) ?_
  refine A1 rfl (B0 0 rfl (A0 rfl) rfl D0 rfl) ?_
  refine A1 rfl (N1 rfl (A0 rfl) B3) ?_
  refine A5 rfl ?_
  refine C4 rfl (fun hc => B2 1 rfl C8 rfl C2 (A0 rfl) rfl) ?_
  refine C4 rfl (fun hc => B0 0 rfl (A7 rfl hc) rfl D0 rfl) ?_
  refine C4 rfl (fun hc => N1 rfl (A7 rfl hc) B3) ?_
  refine A1 rfl (G4 rfl (A0 rfl) (E9 rfl)) ?_
  refine A5 rfl ?_
  refine C4 rfl (fun hc => B2 2 rfl C8 rfl C2 (A0 rfl) rfl) ?_
  refine C4 rfl (fun hc => B0 0 rfl (A7 rfl hc) rfl D0 rfl) ?_
  refine C4 rfl (fun hc => D4 rfl Tryz.call161 rfl (U4 _) (A9 (A7 rfl hc) C6)) ?_
  refine A1 rfl (G4 rfl (A0 rfl) (E9 rfl)) ?_
  refine A5 rfl ?_
  refine C4 rfl (fun hc => B2 6 rfl C8 rfl G7 (A0 rfl) rfl) ?_
  refine C4 rfl (fun hc => B0 0 rfl (A7 rfl hc) rfl H9 rfl) ?_
  refine C4 rfl (fun hc => I3 rfl (A7 rfl hc)) ?_
  refine A1 rfl (G4 rfl (A0 rfl) (E9 rfl)) ?_
  refine B5 rfl ?_
  refine A4 ?_
  refine B7 ?_
  exact D7 rfl (B6 rfl (by first | (exfalso; omega) | exact congrArg AV.bool (by unfold l4Good; rw [ho]; first | rfl | (unfold l4G1 l4G2 l4G4; simp [*]))))
 intro h69
 have k69 := O4 h69; try simp only [A6] at k69
 refine A2 ?_
 refine A1 rfl (N1 rfl (A0 rfl) B3) ?_
 refine B5 rfl ?_
 refine A4 ?_
 refine B8 (A0 rfl) ?_ ?_
 ·intro h69
  have k69 := O5 h69; try simp only [A6] at k69
  refine A3 (A2 ?_)
  refine A1 rfl (B2 1 rfl C8 rfl C2 (A0 rfl) rfl) ?_
  refine A1 rfl (B0 0 rfl (A0 rfl) rfl D0 rfl) ?_
  refine A1 rfl (D4 rfl Tryz.call39 rfl (P7 _ _ _) (A9 (A0 rfl) (A9 B3 (A9 B3 C6)))) ?_
  refine A5 rfl ?_
  refine C4 rfl (fun hc => B2 6 rfl C8 rfl G7 (A0 rfl) rfl) ?_
  refine C4 rfl (fun hc => B0 0 rfl (A7 rfl hc) rfl H9 rfl) ?_
  refine C4 rfl (fun hc => C3 rfl (A7 rfl hc)) ?_
  refine F9 rfl rfl (C9 rfl rfl rfl) (fun hc => B2 2 rfl C8 rfl C2 (A0 rfl) rfl) ?_
  refine F9 rfl rfl (C9 rfl rfl rfl) (fun hc => B0 0 rfl (A7 rfl hc) rfl D0 rfl) ?_
  refine F9 rfl rfl (C9 rfl rfl rfl) (fun hc => D4 rfl Tryz.call161 rfl (U4 _) (A9 (A7 rfl hc) C6)) ?_
  refine C4 rfl (fun hc => G4 rfl (A7 rfl hc) (K4 rfl hc)) ?_
  refine C4 rfl (fun hc => C3 rfl (A7 rfl hc)) ?_
  refine F9 rfl rfl (J4 rfl rfl rfl) (fun hc => B2 6 rfl C8 rfl G7 (A0 rfl) rfl) ?_
  refine F9 rfl rfl (J4 rfl rfl rfl) (fun hc => B0 0 rfl (A7 rfl hc) rfl H9 rfl) ?_
  refine F9 rfl rfl (J4 rfl rfl rfl) (fun hc => I3 rfl (A7 rfl hc)) ?_
  refine F9 rfl rfl (J4 rfl rfl rfl) (fun hc => C3 rfl (A7 rfl hc)) ?_
  refine F9 rfl rfl (C9 rfl rfl rfl) (fun hc => B2 2 rfl C8 rfl C2 (A0 rfl) rfl) ?_
  refine F9 rfl rfl (C9 rfl rfl rfl) (fun hc => B0 0 rfl (A7 rfl hc) rfl D0 rfl) ?_
  refine F9 rfl rfl (C9 rfl rfl rfl) (fun hc => N1 rfl (A7 rfl hc) B3) ?_
  refine F9 rfl rfl (J4 rfl rfl rfl) (fun hc => G4 rfl (A7 rfl hc) (K4 rfl hc)) ?_
  refine C4 rfl (fun hc => M5 rfl (A7 rfl hc) (K4 rfl hc)) ?_
  refine A1 rfl (G4 rfl (A0 rfl) (E9 rfl)) ?_
  refine B5 rfl ?_
  refine A4 ?_
  refine B7 ?_
  exact D7 rfl (B6 rfl (by first | (exfalso; omega) | exact congrArg AV.bool (by unfold l4Good; rw [ho]; first | rfl | (unfold l4G1 l4G2 l4G4; simp [*]))))
 intro h69
 have k69 := O4 h69; try simp only [A6] at k69
 refine B9 (A3 (A2 ?_))
 refine A1 rfl (B2 0 rfl C8 rfl C2 (A0 rfl) rfl) ?_
 refine A1 rfl (B0 0 rfl (A0 rfl) rfl D0 rfl) ?_
 refine A1 rfl (N1 rfl (A0 rfl) B3) ?_
 refine A5 rfl ?_
 refine C4 rfl (fun hc => B2 1 rfl C8 rfl C2 (A0 rfl) rfl) ?_
 refine C4 rfl (fun hc => B0 0 rfl (A7 rfl hc) rfl D0 rfl) ?_
 refine C4 rfl (fun hc => N1 rfl (A7 rfl hc) B3) ?_
 refine A1 rfl (G4 rfl (A0 rfl) (E9 rfl)) ?_
 refine A5 rfl ?_
 refine C4 rfl (fun hc => B2 2 rfl C8 rfl C2 (A0 rfl) rfl) ?_
 refine C4 rfl (fun hc => B0 0 rfl (A7 rfl hc) rfl D0 rfl) ?_
 refine C4 rfl (fun hc => D4 rfl Tryz.call161 rfl (U4 _) (A9 (A7 rfl hc) C6)) ?_
 refine A1 rfl (G4 rfl (A0 rfl) (E9 rfl)) ?_
 refine A5 rfl ?_
 refine C4 rfl (fun hc => B2 6 rfl C8 rfl G7 (A0 rfl) rfl) ?_
 refine C4 rfl (fun hc => B0 0 rfl (A7 rfl hc) rfl H9 rfl) ?_
 refine C4 rfl (fun hc => I3 rfl (A7 rfl hc)) ?_
 refine A1 rfl (G4 rfl (A0 rfl) (E9 rfl)) ?_
 refine B5 rfl ?_
 refine A4 ?_
 refine B7 ?_
 exact D7 rfl (B6 rfl (by first | (exfalso; omega) | exact congrArg AV.bool (by unfold l4Good; rw [ho]; first | rfl | (unfold l4G1 l4G2 l4G4; simp [*]))))
end Go.Proofs.YtkegepoihkhihaaGreat

namespace Go.AV
section
variable {P : Program} {G : Nat → Prop} {n : Nat} {own : List Own} {o : Oper}
end
end Go.AV

namespace Go.AV
open Go.RowKit (Below)
section
variable {P : Program} {G : Nat → Prop} {n : Nat} {own : List Own} {o : Oper} {E : EnvF}
theorem w_tlen {t e : TypeId} {p : Operand} {v : Value} {sz lo : Nat} {es : List (List AV)} (i : Nat) (ho : o.op = .call { callee := .builtin .len, args := #[p], argTypes := #[t] }) (ht : P.underlying t = some (.slice e)) (hp : Ev E p (AV.is (tailV lo sz v))) (hi : own[i]? = some (.arr v e sz es)) : OpW P G n own o E (AV.int ((es.length - lo : Nat) : Int)) := S2 fun w0 R0 R a w hcore he => by
  have h1 : a.eval p = _ := G3 hp (by simp [ho, Op.operands, Call.operands]) he
  obtain ⟨_, _, xs, hown, _⟩ := hcore.owned _ (H0 hi)
  obtain ⟨oa, c, rfl, _⟩ := i3 hown
  have hel : P.elem t = e := by simp [Program.elem, ht]
  have h2 := fun (b : Option Addr) => run_len_slice (P := P) w t o.type b (es.length - lo) (c - lo) (by rw [hel]; exact ht)
  exact ⟨.int .i64 (es.length - lo : Nat), by simp only [execOp, ho, resolve, invoke, builtin, List.map_toArray, List.map_cons, List.map_nil, h1, tailV, sliced, h2, Sem.run_bind, Sem.run_pure, Result.andThen_ok, goInt], rfl⟩
theorem AI4 {t e : TypeId} {p q : Operand} {v : Value} {sz lo : Nat} {es : List (List AV)} {k : Int} (i : Nat) (ho : o.op = .indexAddr t p q) (ht : P.underlying t = some (.slice e)) (hsz : ∀ w, (sizeOf e).run P w = .ok sz w) (hp : Ev E p (AV.is (tailV lo sz v))) (hi : own[i]? = some (.arr v e sz es)) (hq : Ev E q (AV.int k)) (h0 : 0 ≤ k) (hk : lo + k < es.length) :
    OpW P G n own o E (AV.is (elemPtr v ((lo + k.toNat) * sz))) := S2 fun w0 R0 R a w hcore he => by
  have h1 : a.eval p = _ := G3 hp (by simp [ho, Op.operands]) he
  have h2 : a.eval q = .int .i64 k := G3 hq (by simp [ho, Op.operands]) he
  obtain ⟨_, _, xs, hown, _⟩ := hcore.owned _ (H0 hi)
  rcases hown.2 with ⟨rfl, hz⟩ | ⟨g, cap, cur, rfl, _, _, hn, _⟩
  · rw [hz] at hk; simp at hk; omega
  · have hel : P.elem t = e := by simp [Program.elem, ht]
    have hne : ¬ cap = lo := by omega
    have hk2 : k < ((es.length - lo : Nat) : Int) := by omega
    have h3 := run_indexAt_slice (P := P) w t ((⟨g, 0, none⟩ : Addr).add (lo * sz)) (es.length - lo) (cap - lo) .i64 k (by rw [hel]; exact ht)
    rw [if_pos ⟨h0, hk2⟩, hel, hsz, Result.andThen_ok] at h3
    have e : (lo + k.toNat) * sz = lo * sz + k.toNat * sz := Nat.add_mul _ _ _
    refine ⟨.pointer (some (Addr.add ((⟨g, 0, none⟩ : Addr).add (lo * sz)) (k.toNat * sz))), by simp only [execOp, ho, h1, h2, tailV, sliced, if_neg hne, Option.map_some, h3, Sem.run_bind, Sem.run_pure, Result.andThen_ok], ?_⟩
    rw [e]
    show Value.pointer _ = Value.pointer (some (Addr.add ⟨g, 0, none⟩ (lo * sz + k.toNat * sz)))
    simp only [c6, Nat.zero_add]
def SrcE (own : List Own) (E : EnvF) (q : Operand) (sz : Nat) (fs : List (List AV)) : Prop :=
  ∀ (G : Nat → Prop) (w0 : World) (R0 R : RHeap) (a : Act) (w : World), Core G w0 R0 own R w → (∀ t, q = .tmp t → ∀ y, E t = some y → y.den R (a.tmps.getD t undef)) →
    (∀ f ∈ fs, f.length = sz) ∧ ∃ oa cap vs, a.eval q = .slice oa fs.length cap ∧ (fs ≠ [] → ∃ ad, oa = some ad ∧ (∀ j u, vs[j]? = some u → w.cell? (ad.add j) = some u) ∧ DenC R vs fs.flatten)
theorem lt_tailm {α : Type} {f : α → List AV} {l : List α} {v : Value} {e : TypeId} {sz lo k : Nat} (hm : Own.arr v e sz (l.map f) ∈ own) (hlo : lo = k) (hk : k ≤ l.length) : LendTo own (AV.is (tailV lo sz v)) (AV.list sz ((l.drop k).map f)) := fun G w0 R0 R w u hc hu => by
  subst hlo
  cases (show u = tailV lo sz v from hu)
  obtain ⟨_, _, xs, hown, _⟩ := hc.owned _ hm
  obtain ⟨oa, c, hv, hnc⟩ := i3 hown
  have h1 := lt_arr hm m0 G w0 R0 R w v hc rfl
  obtain ⟨oa', c', e1, k1, k2, k3, k4⟩ := h1
  subst e1
  have h9 := s8 (R := lend own w R) (lo := lo) (hi := (l.map f).length) (es := l.map f) (oa := oa') rfl k1 k2 k3 k4 (by rw [A6]; exact hk) (Nat.le_refl _)
  rw [List.take_length, ← List.map_drop] at h9
  exact h9
end
end Go.AV

namespace Go.AV
open Go.Sort

theorem core_row {R : RHeap} {w w' : World} {v : Value} {g : Nat} {t : TypeId} {sz : Nat} {es es' : List (List AV)} {xs : List Value} (hb : v.ownBlock = some g) (hr : RLe R w) (hR : R g = none) (hg : w.grownBy w' (some g))
    (hown : w'.ownsRow 0 t sz v es'.length xs) (hd : DenC R xs es'.flatten) (hsz : ∀ e ∈ es', e.length = sz) :
    Core (blksOf [.arr v t sz es]) w R [.arr v t sz es'] R w' := by
  refine ⟨hg.os, hg.tape, hg.output, hg.size, fun k hk hG => hg.block k hk fun e => hG ⟨_, List.mem_singleton.2 rfl, ?_⟩, fun b o hbo => ?_, fun _ _ => rfl, fun o ho => ?_, fun o ho b e => ?_, ?_⟩
  · injection e with e; subst e; exact hb
  · have h1 := hr b o hbo
    have hlt : b < w.heap.size := (Array.getElem?_eq_some_iff.1 h1).1
    rw [hg.block b hlt fun e => by injection e with e; subst e; rw [hR] at hbo; cases hbo]; exact h1
  · rw [List.mem_singleton.1 ho]
    exact ⟨fun b e => by rw [hb] at e; injection e with e; subst e; exact hR, hsz, xs, hown, hd⟩
  · rw [List.mem_singleton.1 ho] at e
    exact .inr ⟨_, List.mem_singleton.2 rfl, e⟩
  · simp [Own.blk, hb]
theorem AU2 {R : RHeap} {w : World} {o : Own} (hr : RLe R w) (ho : Own.ok R w o) : Core (blksOf [o]) w R [o] R w :=
  ⟨rfl, rfl, rfl, Nat.le_refl _, fun _ _ _ => rfl, hr, fun _ _ => rfl, fun q hq => by rw [List.mem_singleton.1 hq]; exact ho, fun q hq b e => .inr ⟨q, hq, e⟩, by
    simp only [List.filterMap_cons, List.filterMap_nil]
    cases Own.blk o <;> simp⟩
theorem denC_is {R : RHeap} {vs ys : List Value} (h : DenC R vs (ys.map AV.is)) : vs = ys := by
  refine List.ext_getElem? fun i => ?_
  have hl := h.1
  rw [A6] at hl
  by_cases hi : i < ys.length
  · have h1 : vs[i]? = some vs[i] := List.getElem?_eq_getElem (by omega)
    have h2 : (ys.map AV.is)[i]? = some (AV.is ys[i]) := by rw [List.getElem?_map, List.getElem?_eq_getElem hi]; rfl
    have h3 := (h.2 i _ _ h1 h2).1
    rw [h1, List.getElem?_eq_getElem hi]
    exact congrArg some h3
  · rw [List.getElem?_eq_none (by omega), List.getElem?_eq_none (by omega)]
theorem denC_mk {R : RHeap} {ys : List Value} (h : ∀ y ∈ ys, y.oneCell' = true) : DenC R ys (ys.map AV.is) := by
  refine ⟨by rw [A6], fun i v x hv hx => ?_⟩
  rw [List.getElem?_map, hv] at hx
  injection hx with hx; subst hx
  exact ⟨rfl, h v (H0 hv)⟩
theorem p1 {α : Type} (c : α → AV) (l : List α) : (l.map fun n => [c n]).flatten = l.map c := by
  induction l with
  | nil => rfl
  | cons x l ih => simp [ih]
section ordered
variable {P : Program} {f : FuncId} {t : TypeId} {α : Type} [Inhabited α]
theorem row_own1 (enc : α → Value) (h1c : ∀ x, (enc x).oneCell' = true) (srt : List α → List α) (hsl : ∀ l, (srt l).length = l.length)
    (h1 : ∀ (blk off cap : Nat) (zs : List α) (w : World), Holds enc w blk off zs.toArray → blk < w.heap.size → zs.length < 4611686018427387904 →
      Calls P f #[.slice (some ⟨blk, off, none⟩) zs.length cap] w fun e w' => e = .returned (.tuple #[]) ∧ ∃ n os, w' = grow (putRow enc (Sort.ahead w n) blk off (srt zs).toArray) os)
    (h0 : ∀ (p : Option Addr) (cap : Nat) (w : World), Calls P f #[.slice p 0 cap] w fun e w' => e = .returned (.tuple #[]) ∧ w' = w)
    (v : Value) (l : List α) (hl : l.length < 4611686018427387904) :
    GSpec P f [AV.is v] [.arr v t 1 (l.map fun n => [AV.is (enc n)])] (fun _ : Unit => True) (fun _ => [.arr v t 1 ((srt l).map fun n => [AV.is (enc n)])]) (fun _ => AV.tup []) := by
  intro R w vs hr hd hok hnd
  have hvs : vs = [v] := by
    obtain ⟨hlen, hval⟩ := hd
    cases vs with
    | nil => simp at hlen
    | cons a r =>
      cases r with
      | nil => have h9 := hval 0 a (AV.is v) rfl rfl; rw [show a = v from h9]
      | cons b r => simp at hlen
  subst hvs
  have ho := hok _ (List.mem_singleton.2 rfl)
  obtain ⟨hR, hsz, xs, hown, hden⟩ := ho
  have hxs : xs = l.map enc := by
    rw [p1 (fun n => AV.is (enc n))] at hden
    have h9 : l.map (fun n => AV.is (enc n)) = (l.map enc).map AV.is := by simp
    rw [h9] at hden
    exact denC_is hden
  rw [A6] at hown
  rcases hown.2 with ⟨hv, hn⟩ | ⟨g, cap, cur, hv, _, hg, hnc, hcm, hcs, htk⟩
  · have hl0 : l = [] := List.length_eq_zero_iff.1 hn
    subst hv; subst hl0
    have hs0 : srt [] = [] := List.length_eq_zero_iff.1 (hsl [])
    refine (h0 none 0 w).mono ?_
    rintro e w' ⟨rfl, rfl⟩
    refine ⟨(), _, R, trivial, rfl, ⟨[], rfl, DenV.nil _⟩, ?_⟩
    rw [hs0]
    exact AU2 hr (hok _ (List.mem_singleton.2 rfl))
  · subst hv
    have hgl : g < w.heap.size := (Array.getElem?_eq_some_iff.1 hg).1
    rw [Nat.mul_one] at htk hcs
    have hH : Holds enc w g 0 l.toArray := fun j hj => by
      have hj' : j < l.length := by simpa using hj
      have h9 : cur.toList[j]? = some (enc l[j]) := by
        rw [← List.getElem?_take_of_lt hj', htk, hxs, List.getElem?_map, List.getElem?_eq_getElem hj']; rfl
      refine ⟨?_, by simp [World.frozen?, hg]⟩
      simp only [World.cell?, hg, Nat.zero_add]
      simp only [Option.isSome_none, Bool.false_eq_true, if_false]
      rw [← Array.getElem?_toList, h9]
      simp [hj']
    refine (h1 g 0 cap l w hH hgl hl).mono ?_
    rintro e w' ⟨rfl, n, os, rfl⟩
    refine ⟨(), _, R, trivial, rfl, ⟨[], rfl, DenV.nil _⟩, ?_⟩
    have hgb : w.grownBy (grow (putRow enc (Sort.ahead w n) g 0 (srt l).toArray) os) (some g) := by
      refine ⟨rfl, rfl, rfl, by simp, fun k hk hne => ?_⟩
      rw [heap_grow_old _ _ (by simpa using hk)]
      have h9 : g ≠ k := fun e => hne (by rw [e])
      simp [putRow, mapBlock, Sort.ahead, Array.getElem?_modify, h9]
    have hheap : (grow (putRow enc (Sort.ahead w n) g 0 (srt l).toArray) os).heap[g]? = some (.cells (putCells enc 0 (srt l).toArray cur) t (0, 0)) := by
      rw [heap_grow_old _ _ (by simpa using hgl)]
      simp [putRow, mapBlock, Sort.ahead, Array.getElem?_modify, hg, onCells]
    refine core_row (g := g) (xs := (srt l).map enc) rfl hr (hR g rfl) hgb ?_ ?_ ?_
    · rw [A6, hsl]
      refine ⟨by simp [hsl], .inr ⟨g, cap, _, rfl, Nat.zero_le _, hheap, hnc, hcm, by simp [putCells, hcs], ?_⟩⟩
      apply List.ext_getElem?
      intro j
      by_cases hj : j < l.length
      · rw [List.getElem?_take_of_lt (by omega), Array.getElem?_toList]
        have h8 : j < (srt l).length := by rw [hsl]; exact hj
        simp [putCells, h8, show j < cur.size by omega]
      · rw [List.getElem?_take_eq_none (by omega), List.getElem?_eq_none (by simp [hsl]; omega)]
    · rw [p1 (fun n => AV.is (enc n))]
      have h9 : (srt l).map (fun n => AV.is (enc n)) = ((srt l).map enc).map AV.is := by simp
      rw [h9]
      exact denC_mk fun y hy => by obtain ⟨x, _, rfl⟩ := List.mem_map.1 hy; exact h1c x
    · intro e he; obtain ⟨x, _, rfl⟩ := List.mem_map.1 he; rfl
end ordered
end Go.AV

namespace Go.Proofs
open Go.Shelf
def Tryz.sortStrs_ren : Go.Shelf.Ren := ⟨fun | 190 => 189 | 125 => 102 | 258 => 221 | 128 => 157 | 129 => 158 | 302 => 232 | 303 => 233 | 304 => 234 | 305 => 235 | 306 => 236 | 307 => 237 | 308 => 238 | 309 => 239 | 310 => 240 | 333 => 242 | 329 => 194 | 330 => 195 | 334 => 243 | 335 => 244 | 336 => 160 | 344 => 245 | n => n, fun | 31 => 99 | 9 => 9 | 3 => 3 | 46 => 158 | 0 => 0 | 51 => 200 | 53 => 112 | 4 => 4 | 183 => 194 | 182 => 193 | 131 => 24 | 5 => 5 | 218 => 228 | 222 => 232 | 228 => 251 | 229 => 252 | n => n, fun | n => n⟩
theorem Tryz.sortStrs : Go.Proofs.Lays.n190 Tryz.prog Tryz.sortStrs_ren := {
  mixed := by kernel_rfl
  f125 := Tryz.func102.trans (congrArg some (by kernel_rfl))
  f128 := Tryz.func157.trans (congrArg some (by kernel_rfl))
  f129 := Tryz.func158.trans (congrArg some (by kernel_rfl))
  f190 := Tryz.func189.trans (congrArg some (by kernel_rfl))
  f258 := Tryz.func221.trans (congrArg some (by kernel_rfl))
  f302 := Tryz.func232.trans (congrArg some (by kernel_rfl))
  f303 := Tryz.func233.trans (congrArg some (by kernel_rfl))
  f304 := Tryz.func234.trans (congrArg some (by kernel_rfl))
  f305 := Tryz.func235.trans (congrArg some (by kernel_rfl))
  f306 := Tryz.func236.trans (congrArg some (by kernel_rfl))
  f307 := Tryz.func237.trans (congrArg some (by kernel_rfl))
  f308 := Tryz.func238.trans (congrArg some (by kernel_rfl))
  f309 := Tryz.func239.trans (congrArg some (by kernel_rfl))
  f310 := Tryz.func240.trans (congrArg some (by kernel_rfl))
  f329 := Tryz.func194.trans (congrArg some (by kernel_rfl))
  f330 := Tryz.func195.trans (congrArg some (by kernel_rfl))
  f333 := Tryz.func242.trans (congrArg some (by kernel_rfl))
  f334 := Tryz.func243.trans (congrArg some (by kernel_rfl))
  f335 := Tryz.func244.trans (congrArg some (by kernel_rfl))
  f336 := Tryz.func160.trans (congrArg some (by kernel_rfl))
  f344 := Tryz.func245.trans (congrArg some (by kernel_rfl))
  t0 := Tryz.underlying0
  a0 := Tryz.isAgg0
  z0 := Tryz.sizeOf0
  v0 := Tryz.zeroValue0
  t3 := Tryz.underlying3
  a3 := D0
  z3 := C2
  v3 := Tryz.zeroValue3
  t4 := O8
  a4 := H9
  z4 := G7
  v4 := Tryz.zeroValue4
  t5 := Tryz.underlying5
  a5 := Tryz.isAgg5
  z5 := Tryz.sizeOf5
  v5 := Tryz.zeroValue5
  t9 := H6
  a9 := E5
  z9 := D2
  v9 := Tryz.zeroValue9
  t31 := C7
  a31 := K3
  z31 := J2
  v31 := Tryz.zeroValue99
  t46 := Tryz.underlying158
  a46 := Tryz.isAgg158
  z46 := Tryz.sizeOf158
  v46 := Tryz.zeroValue158
  t51 := Tryz.underlying200
  a51 := Tryz.isAgg200
  z51 := Tryz.sizeOf200
  v51 := Tryz.zeroValue200
  t53 := Tryz.underlying112
  a53 := Tryz.isAgg112
  z53 := Tryz.sizeOf112
  v53 := Tryz.zeroValue112
  t131 := Tryz.underlying24
  a131 := Tryz.isAgg24
  z131 := Tryz.sizeOf24
  v131 := Tryz.zeroValue24
  t182 := Tryz.underlying193
  a182 := Tryz.isAgg193
  z182 := Tryz.sizeOf193
  v182 := Tryz.zeroValue193
  t183 := Tryz.underlying194
  a183 := Tryz.isAgg194
  z183 := Tryz.sizeOf194
  v183 := Tryz.zeroValue194
  t218 := Tryz.underlying228
  a218 := Tryz.isAgg228
  z218 := Tryz.sizeOf228
  v218 := Tryz.zeroValue228
  t222 := Tryz.underlying232
  a222 := Tryz.isAgg232
  z222 := Tryz.sizeOf232
  v222 := Tryz.zeroValue232
  t228 := Tryz.underlying251
  a228 := Tryz.isAgg251
  z228 := Tryz.sizeOf251
  v228 := Tryz.zeroValue251
  t229 := Tryz.underlying252
  a229 := Tryz.isAgg252
  z229 := Tryz.sizeOf252
  v229 := Tryz.zeroValue252 }
end Go.Proofs

namespace Go.Proofs.YtkegepoihkhihaaGreat
open Go Go.AV Go.M
attribute [local irreducible] OpW OpA OpS AWP FSpec ESpec GSpec OpE RetOk RetOkG RvDen Le Ev GuardIs SrcIs Int.tmod Int.tdiv IntKind.wrap
theorem AI5 (v : Value) (l : List Str) (hl : l.length < 4611686018427387904) : GSpec Tryz.prog 189 [AV.is v] [.arr v 9 1 (l.map fun s => [AV.str s])] (fun _ : Unit => True) (fun _ => [.arr v 9 1 ((sortS l).map fun s => [AV.str s])]) (fun _ => AV.tup []) :=
  row_own1 Go.Proofs.encStr (fun _ => rfl) sortS AB9
    (fun blk off cap zs w h1 h2 h3 => Any.slices_Sort_string Tryz.sortStrs blk off cap zs w h1 h2 h3) (fun p cap w => Any.slices_Sort_string_none Tryz.sortStrs p cap w) v l hl
end Go.Proofs.YtkegepoihkhihaaGreat

namespace Go.Proofs.YtkegepoihkhihaaGreat
open Go Go.AV Go.M
attribute [local irreducible] OpW OpA OpS AWP FSpec ESpec GSpec OpE RetOk RetOkG RvDen Le Ev GuardIs SrcIs Int.tmod Int.tdiv IntKind.wrap
theorem d1 {l : List Str} {i j : Nat} {s : Str} (h : l[i]? = some s) (hj : j = i * 1) : ((l.map fun s => [AV.str s]).flatten)[j]? = some (AV.str s) := by
  rw [hj, Nat.mul_one]
  have e : (l.map fun s => [AV.str s]).flatten = l.map AV.str := by
    clear h
    induction l with
    | nil => rfl
    | cons x l ih => simp [ih]
  rw [e, List.getElem?_map, h]; rfl
theorem AA3 (v : Value) (l : List Str) (hl : l.length ≤ 4194304) : GSpec Tryz.prog 190 [AV.is v] [.arr v 9 1 (l.map fun s => [AV.str s])]
   (fun _ : Value => True) (fun v => [.arr v 9 1 ((cmpL l).map fun s => [AV.str s])]) (fun v => AV.is v) := by
 refine c7 Tryz.func190 rfl Tryz.ntmps190 rfl ?_
 refine A3 (A2 ?_)
 refine A1 rfl (A8 rfl g9) ?_
 refine A4 (A3 (A3 (A2 ?_)))
 refine A5 rfl ?_
 refine A1 rfl (f8 0 rfl C7 (A0 rfl) rfl) ?_
 refine A1 rfl (F8 rfl (A0 rfl) B3) ?_
 refine A4 ?_
 refine B8 (A0 rfl) ?_ ?_
 ·intro h8
  have k8 := of_decide_eq_true h8; try simp only [A6] at k8
  have hall : cmpL l = l := by (unfold cmpL; rw [d8 (Nat.le_refl _) (fun i h1 h2 => by omega), List.take_length])
  refine A3 (A2 ?_)
  refine A5 rfl ?_
  refine B5 rfl ?_
  refine A4 ?_
  refine B7 ?_
  exact x8 [0] v (trivial) rfl (by first | exact congrArg (fun z => [Own.arr _ 9 1 (List.map (fun s => [AV.str s]) z)]) hall | (refine congrArg (fun z => [Own.arr _ 9 1 z]) ?_; exact (y6 hinv.2.2.2.2.1 hge (by omega)).symm)) (x9 rfl (B6 rfl (by first | rfl | (refine congrArg AV.bool ?_; simp_all; done))))
 intro h8
 have k8 := of_decide_eq_false h8; try simp only [A6] at k8
 refine B9 (A3 (A3 (A2 ?_)))
 refine A1 rfl (A8 rfl B3) ?_
 refine A4 (C5 ?_)
 refine G0 [(0, _)] _ (fun (k : Nat) => (1 ≤ k ∧ k ≤ l.length) ∧ ∀ i, 1 ≤ i → i < k → l[i]? ≠ l[i - 1]?) (fun (k : Nat) => []) (fun (k : Nat) => [(3, AV.int k)]) (fun (k : Nat) => l.length - k) (1) ?_ (G1 ⟨rfl, rfl, trivial⟩) ?_
 ·exact ⟨⟨Nat.le_refl _, by omega⟩, fun i h1 h2 => by omega⟩
 intro k hinv
 refine A3 (A3 (A2 ?_))
 refine A5 rfl ?_
 refine A5 rfl ?_
 refine A1 rfl (f8 0 rfl C7 (A0 rfl) rfl) ?_
 refine A1 rfl (F8 rfl (A0 rfl) (A0 rfl)) ?_
 refine A4 ?_
 refine B8 (A0 rfl) ?_ ?_
 ·intro h13
  have k13 := of_decide_eq_true h13; try simp only [A6] at k13
  have hlt : k < l.length := by omega
  obtain ⟨x, hx⟩ := get_some hlt
  obtain ⟨y, hy⟩ := get_some (show k - 1 < l.length by omega)
  refine B9 (A3 (C5 (A3 ?_)))
  refine H5 (by kernel_rfl) (by kernel_rfl) rfl ?_
  refine B4 rfl rfl (C3 rfl (A0 rfl)) ?_
  refine B4 rfl rfl (C3 rfl (A0 rfl)) ?_
  refine B4 rfl rfl (S7 0 rfl C7 D2 (A0 rfl) rfl (A0 rfl) (by first | omega | (simp only [D1, B1, szR] at *; omega)) (by first | omega | (simp only [D1, B1, szR] at *; omega))) ?_
  refine B4 rfl rfl (W3 0 rfl (A0 rfl) rfl E5 (d1 hx (by omega))) ?_
  refine B4 rfl rfl (C3 rfl (A0 rfl)) ?_
  refine B4 rfl rfl (C3 rfl (A0 rfl)) ?_
  refine B4 rfl rfl (L1 rfl (A0 rfl) B3 (by first | omega | (simp only [D1, B1, szR] at *; omega))) ?_
  refine B4 rfl rfl (S7 0 rfl C7 D2 (A0 rfl) rfl (A0 rfl) (by first | omega | (simp only [D1, B1, szR] at *; omega)) (by first | omega | (simp only [D1, B1, szR] at *; omega))) ?_
  refine B4 rfl rfl (W3 0 rfl (A0 rfl) rfl E5 (d1 hy (by omega))) ?_
  refine B4 rfl rfl (c2 rfl (A0 rfl) (A0 rfl)) ?_
  refine M6 ?_
  refine B8 (A0 rfl) ?_ ?_
  ·intro h25
   have hxy : l[k]? = l[k - 1]? := by (rw [hx, hy]; have h9 := h25; simp at h9; rw [h9])
   have hinv0 := hinv
   refine A3 (A2 ?_)
   refine A5 rfl ?_
   refine A5 rfl ?_
   refine A1 rfl (w_alo 0 rfl C7 D2 (A0 rfl) rfl (A0 rfl) (by first | omega | (simp only [D1, B1, szR] at *; omega)) (by first | omega | (simp only [D1, B1, szR] at *; omega))) ?_
   refine B5 rfl ?_
   refine A4 (A3 (A3 (A2 ?_)))
   refine A1 rfl (A8 rfl B3) ?_
   refine A4 (C5 ?_)
   refine T9 [(0, _), (4, _), (10, _), (11, _), (12, _), (13, _), (16, _), (17, _), (18, _), (19, _), (20, _), (21, _), (22, _), (23, _), (24, _), (25, _), (26, _), (27, _), (28, _)] _ (fun (i : Nat) (j : Nat) (m : List Str) => 1 ≤ j ∧ k + j ≤ l.length ∧ i + 1 ≤ k + j ∧ m.length = l.length ∧ m.take i = cmpN l (k + j) ∧ m.drop (k + j - 1) = l.drop (k + j - 1)) (fun (i : Nat) (j : Nat) (m : List Str) => [.arr v 9 1 (m.map fun s => [AV.str s])]) (fun (i : Nat) (j : Nat) (m : List Str) => [(3, AV.int i), (5, AV.int j)]) (fun (i : Nat) (j : Nat) (m : List Str) => l.length - (k + j)) (k) (1) (l) ?_ (M7 (by rfl) ⟨rfl, rfl, rfl, rfl, rfl, rfl, rfl, rfl, rfl, rfl, rfl, rfl, rfl, rfl, rfl, rfl, rfl, rfl, rfl, rfl, rfl, trivial⟩) ?_
   ·exact ⟨Nat.le_refl _, by omega, by omega, rfl, by rw [AB7 (by omega) hxy, d8 (by omega) hinv0.2], rfl⟩
   intro i j m hinv
   refine A3 (A3 (A2 ?_))
   refine A5 rfl ?_
   refine A5 rfl ?_
   refine A1 rfl (w_tlen 0 rfl C7 (A0 rfl) rfl) ?_
   refine A1 rfl (F8 rfl (A0 rfl) (A0 rfl)) ?_
   refine A4 ?_
   refine B8 (A0 rfl) ?_ ?_
   ·intro h32
    have k32 := of_decide_eq_true h32; try simp only [A6] at k32
    have hm := hinv.2.2.2.1
    have hlt1 : k + j < l.length := by omega
    obtain ⟨x1, hx1⟩ := get_some hlt1
    obtain ⟨y1, hy1⟩ := get_some (show k + j - 1 < l.length by omega)
    have hmx := m2 hinv.2.2.2.2.2 hx1 (by omega)
    have hmy := m2 hinv.2.2.2.2.2 hy1 (by omega)
    refine B9 (A3 (C5 (A3 ?_)))
    refine H5 (by kernel_rfl) (by kernel_rfl) rfl ?_
    refine B4 rfl rfl (C3 rfl (A0 rfl)) ?_
    refine B4 rfl rfl (C3 rfl (A0 rfl)) ?_
    refine B4 rfl rfl (AI4 0 rfl C7 D2 (A0 rfl) rfl (A0 rfl) (by omega) (by simp only [A6]; omega)) ?_
    refine B4 rfl rfl (W3 0 rfl (A0 rfl) rfl E5 (d1 hmx (by rw [show ((k : Int).toNat + (j : Int).toNat) = k + j by omega]))) ?_
    refine B4 rfl rfl (C3 rfl (A0 rfl)) ?_
    refine B4 rfl rfl (C3 rfl (A0 rfl)) ?_
    refine B4 rfl rfl (L1 rfl (A0 rfl) B3 (by first | omega | (simp only [D1, B1, szR] at *; omega))) ?_
    refine B4 rfl rfl (AI4 0 rfl C7 D2 (A0 rfl) rfl (A0 rfl) (by omega) (by simp only [A6]; omega)) ?_
    refine B4 rfl rfl (W3 0 rfl (A0 rfl) rfl E5 (d1 hmy (by rw [show ((k : Int).toNat + ((j : Int) - 1).toNat) = k + j - 1 by omega]))) ?_
    refine B4 rfl rfl (Y8 rfl (A0 rfl) (A0 rfl)) ?_
    refine M6 ?_
    refine B8 (A0 rfl) ?_ ?_
    ·intro h44
     refine A3 (A2 ?_)
     refine A5 rfl ?_
     refine A5 rfl ?_
     refine A5 rfl ?_
     refine A5 rfl ?_
     refine A1 rfl (AI4 0 rfl C7 D2 (A0 rfl) rfl (A0 rfl) (by omega) (by simp only [A6]; omega)) ?_
     refine A1 rfl (W3 0 rfl (A0 rfl) rfl E5 (d1 hmx (by rw [show ((k : Int).toNat + (j : Int).toNat) = k + j by omega]))) ?_
     refine A1 rfl (S7 0 rfl C7 D2 (A0 rfl) rfl (A0 rfl) (by omega) (by simp only [A6]; omega)) ?_
     refine T1 0 rfl rfl rfl (A0 rfl) (A0 rfl) (U8 _) rfl D2 rfl (by simp only [A6, Int.toNat_natCast]; omega) ?_
     refine A4 (A2 ?_)
     refine A5 rfl ?_
     refine A1 rfl (G6 rfl (A0 rfl) B3 (by first | omega | (simp only [D1, B1, szR] at *; omega))) ?_
     refine B5 rfl ?_
     refine A4 (A2 ?_)
     refine A5 rfl ?_
     refine A1 rfl (G6 rfl (A0 rfl) B3 (by first | omega | (simp only [D1, B1, szR] at *; omega))) ?_
     refine B5 rfl ?_
     refine A4 ?_
     refine T3 i j m (i + 1) (j + 1) (m.set i x1) ?_ ?_ (M7 (by first | exact congrArg (fun z => [Own.arr v 9 1 z]) (List.map_set).symm | rfl) ⟨rfl, rfl, rfl, rfl, rfl, rfl, rfl, rfl, rfl, rfl, rfl, rfl, rfl, rfl, rfl, rfl, rfl, rfl, rfl, rfl, rfl, trivial⟩)
     ·exact cmp_keep hinv (by omega) hx1 hy1 (by simpa using h44)
     omega
    intro h44
    refine B9 (A2 ?_)
    refine A5 rfl ?_
    refine A1 rfl (G6 rfl (A0 rfl) B3 (by first | omega | (simp only [D1, B1, szR] at *; omega))) ?_
    refine B5 rfl ?_
    refine A4 ?_
    refine T3 i j m (i) (j + 1) (m) ?_ ?_ (M7 (by first | exact congrArg (fun z => [Own.arr v 9 1 z]) (List.map_set).symm | rfl) ⟨rfl, rfl, rfl, rfl, rfl, rfl, rfl, rfl, rfl, rfl, rfl, rfl, rfl, rfl, rfl, rfl, rfl, rfl, rfl, rfl, rfl, trivial⟩)
    ·exact cmp_skip hinv (by omega) hx1 hy1 (by simpa using h44)
    omega
   intro h32
   have k32 := of_decide_eq_false h32; try simp only [A6] at k32
   have hm := hinv.2.2.2.1
   have hge : k + j = l.length := by omega
   refine F3 ?_
   refine A3 (A2 ?_)
   refine A5 rfl ?_
   refine A5 rfl ?_
   refine A1 rfl (w_alo 0 rfl C7 D2 (A0 rfl) rfl (A0 rfl) (by first | omega | (simp only [D1, B1, szR] at *; omega)) (by first | omega | (simp only [D1, B1, szR] at *; omega))) ?_
   refine AT1 0 rfl rfl rfl C7 Tryz.zeroValue9 rfl rfl (by decide) (A0 rfl) rfl (by simp only [A6, Int.toNat_natCast]; omega) ?_
   refine A4 (A3 (A2 ?_))
   refine A5 rfl ?_
   refine A5 rfl ?_
   refine sq_ahi 0 rfl rfl rfl rfl C7 D2 (A0 rfl) rfl (A0 rfl) (by omega) (by simp only [A6, O9, G2, List.length_replicate]; omega) ?_
   intro v59_1
   refine B5 rfl ?_
   refine A4 ?_
   refine B7 ?_
   exact x8 [0] v59_1 (trivial) rfl (by first | exact congrArg (fun z => [Own.arr _ 9 1 (List.map (fun s => [AV.str s]) z)]) hall | (refine congrArg (fun z => [Own.arr _ 9 1 z]) ?_; exact (y6 hinv.2.2.2.2.1 hge (by omega)).symm)) (x9 rfl (B6 rfl (by first | rfl | (refine congrArg AV.bool ?_; simp_all; done))))
  intro h25
  refine B9 (A2 ?_)
  refine A5 rfl ?_
  refine A1 rfl (G6 rfl (A0 rfl) B3 (by first | omega | (simp only [D1, B1, szR] at *; omega))) ?_
  refine B5 rfl ?_
  refine A4 ?_
  refine G9 k (k + 1) ?_ ?_ (G1 ⟨rfl, rfl, trivial⟩)
  ·exact ⟨⟨by omega, by omega⟩, fun i h1 h2 => if e : i = k then (by subst e; rw [hx, hy]; intro e; injection e with e; subst e; simp at h25) else hinv.2 i h1 (by omega)⟩
  omega
 intro h13
 have k13 := of_decide_eq_false h13; try simp only [A6] at k13
 have hall : cmpL l = l := by (unfold cmpL; rw [d8 (Nat.le_refl _) (fun i h1 h2 => hinv.2 i h1 (by omega)), List.take_length])
 refine F3 ?_
 refine A3 (A2 ?_)
 refine A5 rfl ?_
 refine B5 rfl ?_
 refine A4 ?_
 refine B7 ?_
 exact x8 [0] v (trivial) rfl (by first | exact congrArg (fun z => [Own.arr _ 9 1 (List.map (fun s => [AV.str s]) z)]) hall | (refine congrArg (fun z => [Own.arr _ 9 1 z]) ?_; exact (y6 hinv.2.2.2.2.1 hge (by omega)).symm)) (x9 rfl (B6 rfl (by first | rfl | (refine congrArg AV.bool ?_; simp_all; done))))
end Go.Proofs.YtkegepoihkhihaaGreat
